/- Written by this session's own program (wip/gen.py) out of the translation: plain Lean functions of the Go functions, and proofs that the calls come to their answers. No conditions beside those in the statements. -/
import Derived.Test.YtpflenjhmeaeoaaGreatDoorGUtx0
namespace Go.Proofs.YtpflenjhmeaeoaaGreatDoor.GUt
open Go.RowKit Go.Proofs.YtpflenjhmeaeoaaGreatDoorW.PrintWords Go.Proofs.YtpflenjhmeaeoaaGreatDoorW.PrintLast Go.Proofs.YtpflenjhmeaeoaaGreatDoorW.PrintMore
attribute [local go_sem] fJ fK gH gI eO eP fM fO
set_option linter.unusedVariables false
set_option linter.unusedSimpArgs false
def eU.f (a0 : Int) : Option (Bool):=if a0 ≥ 97 then (some (decide (a0 ≤ 122))) else (some false)
set_option maxHeartbeats 8000000 in
set_option maxRecDepth 100000 in
theorem eU.calls (a0 : Int) (r : Bool) (w : World) (h : eU.f a0 = some r) :
  Calls Tryz.prog 73 #[.int .u8 a0] w fun e w'=>e = .returned (.bool r) ∧ Drawn0 w w':=by
 have H : (if a0 ≥ 97 then (some (decide (a0 ≤ 122))) else (some false)) = some r:=h
 clear h
 by_cases c2 : a0 ≥ 97
 ·rw [if_pos c2] at H
  have c2b0 : decide (97 ≤ a0) = true:=decide_eq_true c2
  clear c2
  obtain rfl:=Option.some.inj H
  go_enter Tryz.func73,Tryz.ntmps73
  go_wp2
  go_ret
  exact ⟨by first|rfl|(simp;done)|(simp [*];done),by repeat (first|exact Drawn0.refl _|apply Drawn0.step)⟩
 ·rw [if_neg c2] at H
  have c2b0 : decide (97 ≤ a0) = false:=decide_eq_false c2
  clear c2
  obtain rfl:=Option.some.inj H
  go_enter Tryz.func73,Tryz.ntmps73
  go_wp2
  go_ret
  exact ⟨by first|rfl|(simp;done)|(simp [*];done),by repeat (first|exact Drawn0.refl _|apply Drawn0.step)⟩
def dP.f (a0 : Int) : Option (Bool):=if a0 ≥ 48 then (some (decide (a0 ≤ 57))) else (some false)
set_option maxHeartbeats 8000000 in
set_option maxRecDepth 100000 in
theorem dP.calls (a0 : Int) (r : Bool) (w : World) (h : dP.f a0 = some r) :
  Calls Tryz.prog 74 #[.int .u8 a0] w fun e w'=>e = .returned (.bool r) ∧ Drawn0 w w':=by
 have H : (if a0 ≥ 48 then (some (decide (a0 ≤ 57))) else (some false)) = some r:=h
 clear h
 by_cases c2 : a0 ≥ 48
 ·rw [if_pos c2] at H
  have c2b0 : decide (48 ≤ a0) = true:=decide_eq_true c2
  clear c2
  obtain rfl:=Option.some.inj H
  go_enter Tryz.func74,Tryz.ntmps74
  go_wp2
  go_ret
  exact ⟨by first|rfl|(simp;done)|(simp [*];done),by repeat (first|exact Drawn0.refl _|apply Drawn0.step)⟩
 ·rw [if_neg c2] at H
  have c2b0 : decide (48 ≤ a0) = false:=decide_eq_false c2
  clear c2
  obtain rfl:=Option.some.inj H
  go_enter Tryz.func74,Tryz.ntmps74
  go_wp2
  go_ret
  exact ⟨by first|rfl|(simp;done)|(simp [*];done),by repeat (first|exact Drawn0.refl _|apply Drawn0.step)⟩
mutual
def bg.j0 : Nat → ByteArray → Bool → Option (Bool)
 | 0,_,_=>none
 | k + 1,x0,x23=>if x23 = true then (some false) else (bg.l0 k x0 (x0.size : Int) 0)
def bg.l0 : Nat → ByteArray → Int → Int → Option (Bool)
 | 0,_,_,_=>none
 | k + 1,x0,x25,Bw=>if Bw < x25 then (if 0 ≤ Bw then (if Bw < (x0.size : Int) then ((eU.f (bt x0 Bw)).bind fun t194=>(if t194 = true then (bg.l0 k x0 x25 (wrap64 (Bw + 1))) else ((dP.f (bt x0 Bw)).bind fun Bh=>(if Bh = true then (bg.l0 k x0 x25 (wrap64 (Bw + 1))) else (if (bt x0 Bw) = 45 then (bg.l0 k x0 x25 (wrap64 (Bw + 1))) else (some false)))))) else (none)) else (none)) else (some true)
end
def bg.f (k : Nat) (a0 : ByteArray) : Option (Bool):=if a0.toList = ([] : List UInt8) then (bg.j0 k a0 true) else (if (a0.size : Int) > 63 then (bg.j0 k a0 true) else (if 0 < (a0.size : Int) then (if (bt a0 0) = 45 then (bg.j0 k a0 true) else (if 0 ≤ (wrap64 ((a0.size : Int) - 1)) then (if (wrap64 ((a0.size : Int) - 1)) < (a0.size : Int) then (bg.j0 k a0 ((bt a0 (wrap64 ((a0.size : Int) - 1))) == 45)) else (none)) else (none))) else (none)))
theorem bg.dQ : ∀ k,(∀ y0 y1,LeO (bg.j0 k y0 y1) (bg.j0 (k + 1) y0 y1)) ∧ (∀ y0 y1 y2,LeO (bg.l0 k y0 y1 y2) (bg.l0 (k + 1) y0 y1 y2))
 | 0=>⟨fun _ _ r h=>by simp [bg.j0] at h,fun _ _ _ r h=>by simp [bg.l0] at h⟩
 | k + 1=>by
  obtain ⟨Bj,ih1⟩:=bg.dQ k
  refine ⟨?_,?_⟩
  ·intro y0 y1
   unfold bg.j0
   repeat' first
   | (with_reducible exact Bj _ _)
   | (with_reducible exact ih1 _ _ _)
   | (with_reducible exact LeO.refl _)
   | (with_reducible exact LeO.none _)
   | (with_reducible refine LeO.ite ?_ ?_)
   | (with_reducible refine LeO.bind ?_ (fun _=>?_))
   | exact Bj _ _
   | exact ih1 _ _ _
   | exact LeO.none _
   | refine LeO.ite ?_ ?_
   | refine LeO.bind ?_ (fun _=>?_)
  ·intro y0 y1 y2
   unfold bg.l0
   repeat' first
   | (with_reducible exact Bj _ _)
   | (with_reducible exact ih1 _ _ _)
   | (with_reducible exact LeO.refl _)
   | (with_reducible exact LeO.none _)
   | (with_reducible refine LeO.ite ?_ ?_)
   | (with_reducible refine LeO.bind ?_ (fun _=>?_))
   | exact Bj _ _
   | exact ih1 _ _ _
   | exact LeO.none _
   | refine LeO.ite ?_ ?_
   | refine LeO.bind ?_ (fun _=>?_)
theorem bg.mono : ∀ a0 k,LeO (bg.f k a0) (bg.f (k + 1) a0):=by
 intro a0 k
 obtain ⟨Bj,ih1⟩:=bg.dQ k
 unfold bg.f
 repeat' first
   | (with_reducible exact Bj _ _)
   | (with_reducible exact ih1 _ _ _)
   | (with_reducible exact LeO.refl _)
   | (with_reducible exact LeO.none _)
   | (with_reducible refine LeO.ite ?_ ?_)
   | (with_reducible refine LeO.bind ?_ (fun _=>?_))
   | exact Bj _ _
   | exact ih1 _ _ _
   | exact LeO.none _
   | refine LeO.ite ?_ ?_
   | refine LeO.bind ?_ (fun _=>?_)
set_option maxHeartbeats 8000000 in
set_option maxRecDepth 100000 in
theorem bg.calls (k : Nat) (a0 : ByteArray) (r : Bool) (w : World) (h : bg.f k a0 = some r) :
  Calls Tryz.prog 56 #[.string a0] w fun e w'=>e = .returned (.bool r) ∧ Drawn0 w w':=by
 have H : (if a0.toList = ([] : List UInt8) then (bg.j0 k a0 true) else (if (a0.size : Int) > 63 then (bg.j0 k a0 true) else (if 0 < (a0.size : Int) then (if (bt a0 0) = 45 then (bg.j0 k a0 true) else (if 0 ≤ (wrap64 ((a0.size : Int) - 1)) then (if (wrap64 ((a0.size : Int) - 1)) < (a0.size : Int) then (bg.j0 k a0 ((bt a0 (wrap64 ((a0.size : Int) - 1))) == 45)) else (none)) else (none))) else (none)))) = some r:=h
 clear h
 have BK:=Aside0.mk H
 clear H
 go_enter Tryz.func56,Tryz.ntmps56
 go_upto_region 1 with (fail)
 go_cut [23] (fun v23 wc=>∃ (kq : Nat) (Bo : Bool),v23 = .bool Bo ∧ Aside0 (bg.j0 kq a0 Bo = some r) ∧ Aside0 (kq ≤ k) ∧ Drawn0 w wc)
 case first =>
  have H:=BK.out
  clear BK
  by_cases c3 : a0.toList = ([] : List UInt8)
  ·rw [if_pos c3] at H
   have c3b0 : (a0.toList == ([] : List UInt8)) = true:=beq_iff_eq.mpr c3
   have c3b1 : (a0.toList != ([] : List UInt8)) = false:=bne_eq_false_iff_eq.mpr c3
   clear c3
   (first|rw [c3b0]|(simp only [bJ,bM];rw [c3b0])|skip)
   have H':=Aside0.mk H
   clear H
   go_wp2
   go_meet
   case rel=>exact ⟨_,(true),(by first|rfl|(simp;done)|(simp [*];done)|exact congrArg Value.bool (dL _)|exact congrArg Value.bool (dL _).symm),H',⟨by first|omega|exact Nat.le_refl _⟩,by repeat (first|exact Drawn0.refl _|apply Drawn0.step)⟩
  ·rw [if_neg c3] at H
   have c3b0 : (a0.toList == ([] : List UInt8)) = false:=beq_eq_false_iff_ne.mpr c3
   have c3b1 : (a0.toList != ([] : List UInt8)) = true:=bne_iff_ne.mpr c3
   (first|rw [c3b0]|(simp only [bJ,bM];rw [c3b0])|skip)
   by_cases c4 : (a0.size : Int) > 63
   ·rw [if_pos c4] at H
    have c4b0 : decide (63 < (a0.size : Int)) = true:=decide_eq_true c4
    have c4b1 : decide (63 < a0.size) = true:=decide_eq_true (by omega)
    clear c4
    have H':=Aside0.mk H
    clear H
    go_wp2
    go_meet
    case rel=>exact ⟨_,(true),(by first|rfl|(simp;done)|(simp [*];done)|exact congrArg Value.bool (dL _)|exact congrArg Value.bool (dL _).symm),H',⟨by first|omega|exact Nat.le_refl _⟩,by repeat (first|exact Drawn0.refl _|apply Drawn0.step)⟩
   ·rw [if_neg c4] at H
    have c4b0 : decide (63 < (a0.size : Int)) = false:=decide_eq_false c4
    have c4b1 : decide (63 < a0.size) = false:=decide_eq_false (by omega)
    clear c4
    by_cases c5 : 0 < (a0.size : Int)
    ·rw [if_pos c5] at H
     have c5b0 : decide (0 < (a0.size : Int)) = true:=decide_eq_true c5
     have c5b1 : decide (0 < a0.size) = true:=decide_eq_true (by omega)
     clear c5
     by_cases c7 : (bt a0 0) = 45
     ·rw [if_pos c7] at H
      have c7b0 : ((bt a0 0) == 45) = true:=beq_iff_eq.mpr c7
      have c7b1 : ((bt a0 0) != 45) = false:=bne_eq_false_iff_eq.mpr c7
      clear c7
      have H':=Aside0.mk H
      clear H
      have p6 : 0 ≤ (0 : Int):=(by omega)
      have q6 : 0 < a0.size:=(by have : (0 : Int) < (a0.size : Int):=of_decide_eq_true (by first|(with_reducible assumption)|assumption);omega)
      have hx6 : ∀ h : 0 < a0.size,((a0[0]'h).toNat : Int) = bt a0 0:=fB a0 0
      clear p6
      have Co : (0 < (a0.size : Int)) = True:=eq_true (of_decide_eq_true (by first|(with_reducible assumption)|assumption))
      replace q6:=eq_true q6
      go_wp2
      go_meet
      case rel=>exact ⟨_,(true),(by first|rfl|(simp;done)|(simp [*];done)|exact congrArg Value.bool (dL _)|exact congrArg Value.bool (dL _).symm),H',⟨by first|omega|exact Nat.le_refl _⟩,by repeat (first|exact Drawn0.refl _|apply Drawn0.step)⟩
     ·rw [if_neg c7] at H
      have c7b0 : ((bt a0 0) == 45) = false:=beq_eq_false_iff_ne.mpr c7
      have c7b1 : ((bt a0 0) != 45) = true:=bne_iff_ne.mpr c7
      obtain ⟨Bt,Bz⟩ : ∃ j_ : Int,(wrap64 ((a0.size : Int) - 1)) = j_:=⟨_,rfl⟩
      replace H : (if 0 ≤ (Bt) then (if (Bt) < (a0.size : Int) then (bg.j0 k a0 ((bt a0 (Bt)) == 45)) else (none)) else (none)) = some r:=by first|(rw [Bz] at H;exact H)|(simp only [Bz] at H ⊢;exact H)
      have hji8w : (IntKind.i64.wrap ((a0.size : Int) - 1)) = Bt:=(bJ _).trans Bz
      by_cases c9 : 0 ≤ (Bt)
      ·rw [if_pos c9] at H
       have c9b0 : decide (0 ≤ (Bt)) = true:=decide_eq_true c9
       clear c9
       by_cases c10 : (Bt) < (a0.size : Int)
       ·rw [if_pos c10] at H
        have c10b0 : decide ((Bt) < (a0.size : Int)) = true:=decide_eq_true c10
        clear c10
        have H':=Aside0.mk H
        clear H
        have p6 : 0 ≤ (0 : Int):=(by omega)
        have q6 : 0 < a0.size:=(by have : (0 : Int) < (a0.size : Int):=of_decide_eq_true (by first|(with_reducible assumption)|assumption);omega)
        have hx6 : ∀ h : 0 < a0.size,((a0[0]'h).toNat : Int) = bt a0 0:=fB a0 0
        clear p6
        have Co : (0 < (a0.size : Int)) = True:=eq_true (of_decide_eq_true (by first|(with_reducible assumption)|assumption))
        replace q6:=eq_true q6
        have Cq : 0 ≤ ((Bt) : Int):=of_decide_eq_true (by first|(with_reducible assumption)|assumption)
        have Cr : (Bt) < (a0.size : Int):=of_decide_eq_true (by first|(with_reducible assumption)|assumption)
        have Cu:=fB a0 (Bt)
        replace Cq:=eq_true Cq
        replace Cr:=eq_true Cr
        go_wp2
        go_meet
        case rel=>exact ⟨_,(((bt a0 (Bt)) == 45)),(by first|rfl|(simp;done)|(simp only [← Bz] <;> (first|rfl|simp))|(simp [*];done)|exact congrArg Value.bool (dL _)|exact congrArg Value.bool (dL _).symm),H',⟨by first|omega|exact Nat.le_refl _⟩,by repeat (first|exact Drawn0.refl _|apply Drawn0.step)⟩
       ·rw [if_neg c10] at H
        exact absurd H (by simp)
      ·rw [if_neg c9] at H
       exact absurd H (by simp)
    ·rw [if_neg c5] at H
     exact absurd H (by simp)
 case rest =>
  clear BK
  obtain ⟨kq,Bo,rfl,HA,Bl,⟨Cv,rfl⟩⟩:=hcut
  cases kq with
  | zero=>exact absurd HA.out (by simp [bg.j0])
  | succ BL =>
   have H:=HA.out
   clear HA
   simp only [bg.j0] at H
   by_cases c12 : Bo = true
   ·subst c12
    have H1 : (some false) = some r:=by rw [if_pos rfl] at H;exact H
    clear H
    have H:=H1
    clear H1
    obtain rfl:=Option.some.inj H
    go_wp2
    go_ret
    exact ⟨by first|rfl|(simp;done)|(simp [*];done),by repeat (first|exact Drawn0.refl _|apply Drawn0.step)⟩
   ·replace c12:=Bool.eq_false_iff.mpr c12
    subst c12
    have H1 : (bg.l0 BL a0 (a0.size : Int) 0) = some r:=by rw [if_neg (show ¬ (false = true) by decide)] at H;exact H
    clear H
    have H:=H1
    clear H1
    have H':=Aside0.mk H
    clear H
    go_wp2
    go_loopg [26] BL (fun kq v26 w'=>∃ (Bf : Int),v26 = .int .i64 Bf ∧ Aside0 (bg.l0 kq a0 (a0.size : Int) Bf = some r) ∧ Aside0 (kq ≤ BL) ∧ Drawn0 w w')
    case atStart=>exact ⟨(0),(by first|rfl|(simp;done)|(simp [*];done)|exact congrArg Value.bool (dL _)|exact congrArg Value.bool (dL _).symm),H',⟨Nat.le_refl _⟩,by repeat (first|exact Drawn0.refl _|apply Drawn0.step)⟩
    case round =>
     clear H'
     obtain ⟨Bf,rfl,HA,Bn,⟨m2,rfl⟩⟩:=hrel
     cases gk with
     | zero=>exact absurd HA.out (by simp [bg.l0])
     | succ k2 =>
      have H:=HA.out
      clear HA
      simp only [bg.l0] at H
      by_cases c13 : Bf < (a0.size : Int)
      ·rw [if_pos c13] at H
       have c13b0 : decide (Bf < (a0.size : Int)) = true:=decide_eq_true c13
       clear c13
       by_cases c14 : 0 ≤ Bf
       ·rw [if_pos c14] at H
        have c14b0 : decide (0 ≤ Bf) = true:=decide_eq_true c14
        clear c14
        by_cases c15 : Bf < (a0.size : Int)
        ·rw [if_pos c15] at H
         have c15b0 : decide (Bf < (a0.size : Int)) = true:=decide_eq_true c15
         clear c15
         replace H:=Option.bind_eq_some_iff.mp H
         obtain ⟨t194,BP,H⟩:=H
         replace H : (if t194 = true then (bg.l0 k2 a0 (a0.size : Int) (wrap64 (Bf + 1))) else ((dP.f (bt a0 Bf)).bind fun Bh=>(if Bh = true then (bg.l0 k2 a0 (a0.size : Int) (wrap64 (Bf + 1))) else (if (bt a0 Bf) = 45 then (bg.l0 k2 a0 (a0.size : Int) (wrap64 (Bf + 1))) else (some false))))) = some r:=H
         have Ch:=Aside0.mk BP
         clear BP
         by_cases c18 : t194 = true
         ·subst c18
          have H1 : (bg.l0 k2 a0 (a0.size : Int) (wrap64 (Bf + 1))) = some r:=by rw [if_pos rfl] at H;exact H
          clear H
          have H:=H1
          clear H1
          have H':=Aside0.mk H
          clear H
          have p16 : 0 ≤ (Bf : Int):=of_decide_eq_true (by first|(with_reducible assumption)|assumption)
          have q16 : Bf < (a0.size : Int):=of_decide_eq_true (by first|(with_reducible assumption)|assumption)
          have hx16:=fB a0 Bf
          replace p16:=eq_true p16
          replace q16:=eq_true q16
          go_wp2_with (first|((with_reducible refine bF (f:=73) rfl ?_);refine dN (some 32) rfl rfl Tryz.func73 (by kernel_rfl) rfl #[.int .u8 (bt a0 Bf)] rfl (by (try simp only [List.map_toArray,List.map_cons,List.map_nil]);first|done|rfl|(simp only [List.length_drop,List.length_take];rfl)|(simp (disch:=first|omega|(simp at *;omega)) only [dO,dG,eH];rfl)) ?_;(with_reducible refine (eU.calls (bt a0 Bf) true _ Ch.out).mono ?_);rintro e w' ⟨rfl,⟨nd,rfl⟩⟩;refine ⟨_,rfl,?_⟩))
          go_roundg k2
          case measure=>have:=Bl.out;have:=Bn.out;omega
          case rel=>exact ⟨(wrap64 (Bf + 1)),(by first|rfl|(simp;done)|(simp [*];done)|exact congrArg Value.bool (dL _)|exact congrArg Value.bool (dL _).symm),H',⟨by have:=Bl.out;have:=Bn.out;omega⟩,by repeat (first|exact Drawn0.refl _|apply Drawn0.step)⟩
         ·replace c18:=Bool.eq_false_iff.mpr c18
          subst c18
          have H1 : ((dP.f (bt a0 Bf)).bind fun Bh=>(if Bh = true then (bg.l0 k2 a0 (a0.size : Int) (wrap64 (Bf + 1))) else (if (bt a0 Bf) = 45 then (bg.l0 k2 a0 (a0.size : Int) (wrap64 (Bf + 1))) else (some false)))) = some r:=by rw [if_neg (show ¬ (false = true) by decide)] at H;exact H
          clear H
          have H:=H1
          clear H1
          replace H:=Option.bind_eq_some_iff.mp H
          obtain ⟨Bh,BQ,H⟩:=H
          replace H : (if Bh = true then (bg.l0 k2 a0 (a0.size : Int) (wrap64 (Bf + 1))) else (if (bt a0 Bf) = 45 then (bg.l0 k2 a0 (a0.size : Int) (wrap64 (Bf + 1))) else (some false))) = some r:=H
          have Cj:=Aside0.mk BQ
          clear BQ
          by_cases c21 : Bh = true
          ·subst c21
           have H1 : (bg.l0 k2 a0 (a0.size : Int) (wrap64 (Bf + 1))) = some r:=by rw [if_pos rfl] at H;exact H
           clear H
           have H:=H1
           clear H1
           have H':=Aside0.mk H
           clear H
           have p16 : 0 ≤ (Bf : Int):=of_decide_eq_true (by first|(with_reducible assumption)|assumption)
           have q16 : Bf < (a0.size : Int):=of_decide_eq_true (by first|(with_reducible assumption)|assumption)
           have hx16:=fB a0 Bf
           replace p16:=eq_true p16
           replace q16:=eq_true q16
           go_wp2_with (first|((with_reducible refine bF (f:=73) rfl ?_);refine dN (some 32) rfl rfl Tryz.func73 (by kernel_rfl) rfl #[.int .u8 (bt a0 Bf)] rfl (by (try simp only [List.map_toArray,List.map_cons,List.map_nil]);first|done|rfl|(simp only [List.length_drop,List.length_take];rfl)|(simp (disch:=first|omega|(simp at *;omega)) only [dO,dG,eH];rfl)) ?_;(with_reducible refine (eU.calls (bt a0 Bf) false _ Ch.out).mono ?_);rintro e w' ⟨rfl,⟨nd,rfl⟩⟩;refine ⟨_,rfl,?_⟩;have BG : 0 ≤ (Bf : Int):=of_decide_eq_true (by first|(with_reducible assumption)|assumption);have BH : Bf < (a0.size : Int):=of_decide_eq_true (by first|(with_reducible assumption)|assumption);have BR:=fB a0 Bf;replace BG:=eq_true BG;replace BH:=eq_true BH)|(go_at_call 74;(with_reducible refine (dP.calls (bt a0 Bf) true _ Cj.out).mono ?_);rintro e w' ⟨rfl,⟨nd,rfl⟩⟩))
           go_roundg k2
           case measure=>have:=Bl.out;have:=Bn.out;omega
           case rel=>exact ⟨(wrap64 (Bf + 1)),(by first|rfl|(simp;done)|(simp [*];done)|exact congrArg Value.bool (dL _)|exact congrArg Value.bool (dL _).symm),H',⟨by have:=Bl.out;have:=Bn.out;omega⟩,by repeat (first|exact Drawn0.refl _|apply Drawn0.step)⟩
          ·replace c21:=Bool.eq_false_iff.mpr c21
           subst c21
           have H1 : (if (bt a0 Bf) = 45 then (bg.l0 k2 a0 (a0.size : Int) (wrap64 (Bf + 1))) else (some false)) = some r:=by rw [if_neg (show ¬ (false = true) by decide)] at H;exact H
           clear H
           have H:=H1
           clear H1
           by_cases c23 : (bt a0 Bf) = 45
           ·rw [if_pos c23] at H
            have c23b0 : ((bt a0 Bf) == 45) = true:=beq_iff_eq.mpr c23
            have c23b1 : ((bt a0 Bf) != 45) = false:=bne_eq_false_iff_eq.mpr c23
            clear c23
            have H':=Aside0.mk H
            clear H
            have p16 : 0 ≤ (Bf : Int):=of_decide_eq_true (by first|(with_reducible assumption)|assumption)
            have q16 : Bf < (a0.size : Int):=of_decide_eq_true (by first|(with_reducible assumption)|assumption)
            have hx16:=fB a0 Bf
            replace p16:=eq_true p16
            replace q16:=eq_true q16
            go_wp2_with (first|((with_reducible refine bF (f:=73) rfl ?_);refine dN (some 32) rfl rfl Tryz.func73 (by kernel_rfl) rfl #[.int .u8 (bt a0 Bf)] rfl (by (try simp only [List.map_toArray,List.map_cons,List.map_nil]);first|done|rfl|(simp only [List.length_drop,List.length_take];rfl)|(simp (disch:=first|omega|(simp at *;omega)) only [dO,dG,eH];rfl)) ?_;(with_reducible refine (eU.calls (bt a0 Bf) false _ Ch.out).mono ?_);rintro e w' ⟨rfl,⟨nd,rfl⟩⟩;refine ⟨_,rfl,?_⟩;have BG : 0 ≤ (Bf : Int):=of_decide_eq_true (by first|(with_reducible assumption)|assumption);have BH : Bf < (a0.size : Int):=of_decide_eq_true (by first|(with_reducible assumption)|assumption);have BR:=fB a0 Bf;replace BG:=eq_true BG;replace BH:=eq_true BH)|(go_at_call 74;(with_reducible refine (dP.calls (bt a0 Bf) false _ Cj.out).mono ?_);rintro e w' ⟨rfl,⟨nd,rfl⟩⟩;have BS : 0 ≤ (Bf : Int):=of_decide_eq_true (by first|(with_reducible assumption)|assumption);have q22 : Bf < (a0.size : Int):=of_decide_eq_true (by first|(with_reducible assumption)|assumption);have Ck:=fB a0 Bf;replace BS:=eq_true BS;replace q22:=eq_true q22))
            go_roundg k2
            case measure=>have:=Bl.out;have:=Bn.out;omega
            case rel=>exact ⟨(wrap64 (Bf + 1)),(by first|rfl|(simp;done)|(simp [*];done)|exact congrArg Value.bool (dL _)|exact congrArg Value.bool (dL _).symm),H',⟨by have:=Bl.out;have:=Bn.out;omega⟩,by repeat (first|exact Drawn0.refl _|apply Drawn0.step)⟩
           ·rw [if_neg c23] at H
            have c23b0 : ((bt a0 Bf) == 45) = false:=beq_eq_false_iff_ne.mpr c23
            have c23b1 : ((bt a0 Bf) != 45) = true:=bne_iff_ne.mpr c23
            obtain rfl:=Option.some.inj H
            have p16 : 0 ≤ (Bf : Int):=of_decide_eq_true (by first|(with_reducible assumption)|assumption)
            have q16 : Bf < (a0.size : Int):=of_decide_eq_true (by first|(with_reducible assumption)|assumption)
            have hx16:=fB a0 Bf
            replace p16:=eq_true p16
            replace q16:=eq_true q16
            go_wp2_with (first|((with_reducible refine bF (f:=73) rfl ?_);refine dN (some 32) rfl rfl Tryz.func73 (by kernel_rfl) rfl #[.int .u8 (bt a0 Bf)] rfl (by (try simp only [List.map_toArray,List.map_cons,List.map_nil]);first|done|rfl|(simp only [List.length_drop,List.length_take];rfl)|(simp (disch:=first|omega|(simp at *;omega)) only [dO,dG,eH];rfl)) ?_;(with_reducible refine (eU.calls (bt a0 Bf) false _ Ch.out).mono ?_);rintro e w' ⟨rfl,⟨nd,rfl⟩⟩;refine ⟨_,rfl,?_⟩;have BG : 0 ≤ (Bf : Int):=of_decide_eq_true (by first|(with_reducible assumption)|assumption);have BH : Bf < (a0.size : Int):=of_decide_eq_true (by first|(with_reducible assumption)|assumption);have BR:=fB a0 Bf;replace BG:=eq_true BG;replace BH:=eq_true BH)|(go_at_call 74;(with_reducible refine (dP.calls (bt a0 Bf) false _ Cj.out).mono ?_);rintro e w' ⟨rfl,⟨nd,rfl⟩⟩;have BS : 0 ≤ (Bf : Int):=of_decide_eq_true (by first|(with_reducible assumption)|assumption);have q22 : Bf < (a0.size : Int):=of_decide_eq_true (by first|(with_reducible assumption)|assumption);have Ck:=fB a0 Bf;replace BS:=eq_true BS;replace q22:=eq_true q22))
            go_ret
            exact ⟨by first|rfl|(simp;done)|(simp [*];done),by repeat (first|exact Drawn0.refl _|apply Drawn0.step)⟩
        ·rw [if_neg c15] at H
         exact absurd H (by simp)
       ·rw [if_neg c14] at H
        exact absurd H (by simp)
      ·rw [if_neg c13] at H
       have c13b0 : decide (Bf < (a0.size : Int)) = false:=decide_eq_false c13
       clear c13
       obtain rfl:=Option.some.inj H
       go_wp2
       go_ret
       exact ⟨by first|rfl|(simp;done)|(simp [*];done),by repeat (first|exact Drawn0.refl _|apply Drawn0.step)⟩
def gM.f (a0 : Int) : Option (Bool):=if a0 ≥ 65 then (some (decide (a0 ≤ 90))) else (some false)
set_option maxHeartbeats 8000000 in
set_option maxRecDepth 100000 in
theorem gM.calls (a0 : Int) (r : Bool) (w : World) (h : gM.f a0 = some r) :
  Calls Tryz.prog 76 #[.int .u8 a0] w fun e w'=>e = .returned (.bool r) ∧ Drawn0 w w':=by
 have H : (if a0 ≥ 65 then (some (decide (a0 ≤ 90))) else (some false)) = some r:=h
 clear h
 by_cases c2 : a0 ≥ 65
 ·rw [if_pos c2] at H
  have c2b0 : decide (65 ≤ a0) = true:=decide_eq_true c2
  clear c2
  obtain rfl:=Option.some.inj H
  go_enter Tryz.func76,Tryz.ntmps76
  go_wp2
  go_ret
  exact ⟨by first|rfl|(simp;done)|(simp [*];done),by repeat (first|exact Drawn0.refl _|apply Drawn0.step)⟩
 ·rw [if_neg c2] at H
  have c2b0 : decide (65 ≤ a0) = false:=decide_eq_false c2
  clear c2
  obtain rfl:=Option.some.inj H
  go_enter Tryz.func76,Tryz.ntmps76
  go_wp2
  go_ret
  exact ⟨by first|rfl|(simp;done)|(simp [*];done),by repeat (first|exact Drawn0.refl _|apply Drawn0.step)⟩
mutual
def bf.j0 : Nat → ByteArray → Bool → Option (Bool)
 | 0,_,_=>none
 | k + 1,x0,Cw=>if Cw = true then (some false) else (bf.l0 k x0 (x0.size : Int) 0)
def bf.l0 : Nat → ByteArray → Int → Int → Option (Bool)
 | 0,_,_,_=>none
 | k + 1,x0,BU,x18=>if x18 < BU then (if 0 ≤ x18 then (if x18 < (x0.size : Int) then ((eU.f (bt x0 x18)).bind fun BD=>(if BD = true then (bf.l0 k x0 BU (wrap64 (x18 + 1))) else ((gM.f (bt x0 x18)).bind fun t198=>(if t198 = true then (bf.l0 k x0 BU (wrap64 (x18 + 1))) else ((dP.f (bt x0 x18)).bind fun Bg=>(if Bg = true then (bf.l0 k x0 BU (wrap64 (x18 + 1))) else (if (bt x0 x18) = 95 then (bf.l0 k x0 BU (wrap64 (x18 + 1))) else (some false)))))))) else (none)) else (none)) else (some true)
end
def bf.f (k : Nat) (a0 : ByteArray) : Option (Bool):=if a0.toList = ([] : List UInt8) then (bf.j0 k a0 true) else (if (a0.size : Int) > 63 then (bf.j0 k a0 true) else (if 0 < (a0.size : Int) then ((dP.f (bt a0 0)).bind fun t196=>(bf.j0 k a0 t196)) else (none)))
theorem bf.dQ : ∀ k,(∀ y0 y1,LeO (bf.j0 k y0 y1) (bf.j0 (k + 1) y0 y1)) ∧ (∀ y0 y1 y2,LeO (bf.l0 k y0 y1 y2) (bf.l0 (k + 1) y0 y1 y2))
 | 0=>⟨fun _ _ r h=>by simp [bf.j0] at h,fun _ _ _ r h=>by simp [bf.l0] at h⟩
 | k + 1=>by
  obtain ⟨Bj,ih1⟩:=bf.dQ k
  refine ⟨?_,?_⟩
  ·intro y0 y1
   unfold bf.j0
   repeat' first
   | (with_reducible exact Bj _ _)
   | (with_reducible exact ih1 _ _ _)
   | (with_reducible exact LeO.refl _)
   | (with_reducible exact LeO.none _)
   | (with_reducible refine LeO.ite ?_ ?_)
   | (with_reducible refine LeO.bind ?_ (fun _=>?_))
   | exact Bj _ _
   | exact ih1 _ _ _
   | exact LeO.none _
   | refine LeO.ite ?_ ?_
   | refine LeO.bind ?_ (fun _=>?_)
  ·intro y0 y1 y2
   unfold bf.l0
   repeat' first
   | (with_reducible exact Bj _ _)
   | (with_reducible exact ih1 _ _ _)
   | (with_reducible exact LeO.refl _)
   | (with_reducible exact LeO.none _)
   | (with_reducible refine LeO.ite ?_ ?_)
   | (with_reducible refine LeO.bind ?_ (fun _=>?_))
   | exact Bj _ _
   | exact ih1 _ _ _
   | exact LeO.none _
   | refine LeO.ite ?_ ?_
   | refine LeO.bind ?_ (fun _=>?_)
theorem bf.mono : ∀ a0 k,LeO (bf.f k a0) (bf.f (k + 1) a0):=by
 intro a0 k
 obtain ⟨Bj,ih1⟩:=bf.dQ k
 unfold bf.f
 repeat' first
   | (with_reducible exact Bj _ _)
   | (with_reducible exact ih1 _ _ _)
   | (with_reducible exact LeO.refl _)
   | (with_reducible exact LeO.none _)
   | (with_reducible refine LeO.ite ?_ ?_)
   | (with_reducible refine LeO.bind ?_ (fun _=>?_))
   | exact Bj _ _
   | exact ih1 _ _ _
   | exact LeO.none _
   | refine LeO.ite ?_ ?_
   | refine LeO.bind ?_ (fun _=>?_)
set_option maxHeartbeats 8000000 in
set_option maxRecDepth 100000 in
theorem bf.calls (k : Nat) (a0 : ByteArray) (r : Bool) (w : World) (h : bf.f k a0 = some r) :
  Calls Tryz.prog 58 #[.string a0] w fun e w'=>e = .returned (.bool r) ∧ Drawn0 w w':=by
 have H : (if a0.toList = ([] : List UInt8) then (bf.j0 k a0 true) else (if (a0.size : Int) > 63 then (bf.j0 k a0 true) else (if 0 < (a0.size : Int) then ((dP.f (bt a0 0)).bind fun t196=>(bf.j0 k a0 t196)) else (none)))) = some r:=h
 clear h
 have BK:=Aside0.mk H
 clear H
 go_enter Tryz.func58,Tryz.ntmps58
 go_upto_region 1 with (fail)
 go_cut [15] (fun v15 wc=>∃ (kq : Nat) (Bp : Bool),v15 = .bool Bp ∧ Aside0 (bf.j0 kq a0 Bp = some r) ∧ Aside0 (kq ≤ k) ∧ Drawn0 w wc)
 case first =>
  have H:=BK.out
  clear BK
  by_cases c3 : a0.toList = ([] : List UInt8)
  ·rw [if_pos c3] at H
   have c3b0 : (a0.toList == ([] : List UInt8)) = true:=beq_iff_eq.mpr c3
   have c3b1 : (a0.toList != ([] : List UInt8)) = false:=bne_eq_false_iff_eq.mpr c3
   clear c3
   (first|rw [c3b0]|(simp only [bJ,bM];rw [c3b0])|skip)
   have H':=Aside0.mk H
   clear H
   go_wp2
   go_meet
   case rel=>exact ⟨_,(true),(by first|rfl|(simp;done)|(simp [*];done)|exact congrArg Value.bool (dL _)|exact congrArg Value.bool (dL _).symm),H',⟨by first|omega|exact Nat.le_refl _⟩,by repeat (first|exact Drawn0.refl _|apply Drawn0.step)⟩
  ·rw [if_neg c3] at H
   have c3b0 : (a0.toList == ([] : List UInt8)) = false:=beq_eq_false_iff_ne.mpr c3
   have c3b1 : (a0.toList != ([] : List UInt8)) = true:=bne_iff_ne.mpr c3
   (first|rw [c3b0]|(simp only [bJ,bM];rw [c3b0])|skip)
   by_cases c4 : (a0.size : Int) > 63
   ·rw [if_pos c4] at H
    have c4b0 : decide (63 < (a0.size : Int)) = true:=decide_eq_true c4
    have c4b1 : decide (63 < a0.size) = true:=decide_eq_true (by omega)
    clear c4
    have H':=Aside0.mk H
    clear H
    go_wp2
    go_meet
    case rel=>exact ⟨_,(true),(by first|rfl|(simp;done)|(simp [*];done)|exact congrArg Value.bool (dL _)|exact congrArg Value.bool (dL _).symm),H',⟨by first|omega|exact Nat.le_refl _⟩,by repeat (first|exact Drawn0.refl _|apply Drawn0.step)⟩
   ·rw [if_neg c4] at H
    have c4b0 : decide (63 < (a0.size : Int)) = false:=decide_eq_false c4
    have c4b1 : decide (63 < a0.size) = false:=decide_eq_false (by omega)
    clear c4
    by_cases c5 : 0 < (a0.size : Int)
    ·rw [if_pos c5] at H
     have c5b0 : decide (0 < (a0.size : Int)) = true:=decide_eq_true c5
     have c5b1 : decide (0 < a0.size) = true:=decide_eq_true (by omega)
     clear c5
     replace H:=Option.bind_eq_some_iff.mp H
     obtain ⟨t196,Ct,H⟩:=H
     replace H : (bf.j0 k a0 t196) = some r:=H
     have A7:=Aside0.mk Ct
     clear Ct
     have H':=Aside0.mk H
     clear H
     have p6 : 0 ≤ (0 : Int):=(by omega)
     have q6 : 0 < a0.size:=(by have : (0 : Int) < (a0.size : Int):=of_decide_eq_true (by first|(with_reducible assumption)|assumption);omega)
     have hx6 : ∀ h : 0 < a0.size,((a0[0]'h).toNat : Int) = bt a0 0:=fB a0 0
     clear p6
     have Co : (0 < (a0.size : Int)) = True:=eq_true (of_decide_eq_true (by first|(with_reducible assumption)|assumption))
     replace q6:=eq_true q6
     go_wp2_with (first|(go_at_call 74;(with_reducible refine (dP.calls (bt a0 0) t196 _ A7.out).mono ?_);rintro e w' ⟨rfl,⟨nd,rfl⟩⟩))
     go_meet
     case rel=>exact ⟨_,(t196),(by first|rfl|(simp;done)|(simp [*];done)|exact congrArg Value.bool (dL _)|exact congrArg Value.bool (dL _).symm),H',⟨by first|omega|exact Nat.le_refl _⟩,by repeat (first|exact Drawn0.refl _|apply Drawn0.step)⟩
    ·rw [if_neg c5] at H
     exact absurd H (by simp)
 case rest =>
  clear BK
  obtain ⟨kq,Bp,rfl,HA,Bl,⟨Cv,rfl⟩⟩:=hcut
  cases kq with
  | zero=>exact absurd HA.out (by simp [bf.j0])
  | succ BL =>
   have H:=HA.out
   clear HA
   simp only [bf.j0] at H
   by_cases c8 : Bp = true
   ·subst c8
    have H1 : (some false) = some r:=by rw [if_pos rfl] at H;exact H
    clear H
    have H:=H1
    clear H1
    obtain rfl:=Option.some.inj H
    go_wp2
    go_ret
    exact ⟨by first|rfl|(simp;done)|(simp [*];done),by repeat (first|exact Drawn0.refl _|apply Drawn0.step)⟩
   ·replace c8:=Bool.eq_false_iff.mpr c8
    subst c8
    have H1 : (bf.l0 BL a0 (a0.size : Int) 0) = some r:=by rw [if_neg (show ¬ (false = true) by decide)] at H;exact H
    clear H
    have H:=H1
    clear H1
    have H':=Aside0.mk H
    clear H
    go_wp2
    go_loopg [18] BL (fun kq v18 w'=>∃ (AZ : Int),v18 = .int .i64 AZ ∧ Aside0 (bf.l0 kq a0 (a0.size : Int) AZ = some r) ∧ Aside0 (kq ≤ BL) ∧ Drawn0 w w')
    case atStart=>exact ⟨(0),(by first|rfl|(simp;done)|(simp [*];done)|exact congrArg Value.bool (dL _)|exact congrArg Value.bool (dL _).symm),H',⟨Nat.le_refl _⟩,by repeat (first|exact Drawn0.refl _|apply Drawn0.step)⟩
    case round =>
     clear H'
     obtain ⟨AZ,rfl,HA,Bn,⟨m2,rfl⟩⟩:=hrel
     cases gk with
     | zero=>exact absurd HA.out (by simp [bf.l0])
     | succ k2 =>
      have H:=HA.out
      clear HA
      simp only [bf.l0] at H
      by_cases c9 : AZ < (a0.size : Int)
      ·rw [if_pos c9] at H
       have c9b0 : decide (AZ < (a0.size : Int)) = true:=decide_eq_true c9
       clear c9
       by_cases c10 : 0 ≤ AZ
       ·rw [if_pos c10] at H
        have c10b0 : decide (0 ≤ AZ) = true:=decide_eq_true c10
        clear c10
        by_cases c11 : AZ < (a0.size : Int)
        ·rw [if_pos c11] at H
         have c11b0 : decide (AZ < (a0.size : Int)) = true:=decide_eq_true c11
         clear c11
         replace H:=Option.bind_eq_some_iff.mp H
         obtain ⟨BD,BX,H⟩:=H
         replace H : (if BD = true then (bf.l0 k2 a0 (a0.size : Int) (wrap64 (AZ + 1))) else ((gM.f (bt a0 AZ)).bind fun t198=>(if t198 = true then (bf.l0 k2 a0 (a0.size : Int) (wrap64 (AZ + 1))) else ((dP.f (bt a0 AZ)).bind fun Bg=>(if Bg = true then (bf.l0 k2 a0 (a0.size : Int) (wrap64 (AZ + 1))) else (if (bt a0 AZ) = 95 then (bf.l0 k2 a0 (a0.size : Int) (wrap64 (AZ + 1))) else (some false))))))) = some r:=H
         have BZ:=Aside0.mk BX
         clear BX
         by_cases c14 : BD = true
         ·subst c14
          have H1 : (bf.l0 k2 a0 (a0.size : Int) (wrap64 (AZ + 1))) = some r:=by rw [if_pos rfl] at H;exact H
          clear H
          have H:=H1
          clear H1
          have H':=Aside0.mk H
          clear H
          have Bq : 0 ≤ (AZ : Int):=of_decide_eq_true (by first|(with_reducible assumption)|assumption)
          have Br : AZ < (a0.size : Int):=of_decide_eq_true (by first|(with_reducible assumption)|assumption)
          have BF:=fB a0 AZ
          replace Bq:=eq_true Bq
          replace Br:=eq_true Br
          go_wp2_with (first|((with_reducible refine bF (f:=73) rfl ?_);refine dN (some 24) rfl rfl Tryz.func73 (by kernel_rfl) rfl #[.int .u8 (bt a0 AZ)] rfl (by (try simp only [List.map_toArray,List.map_cons,List.map_nil]);first|done|rfl|(simp only [List.length_drop,List.length_take];rfl)|(simp (disch:=first|omega|(simp at *;omega)) only [dO,dG,eH];rfl)) ?_;(with_reducible refine (eU.calls (bt a0 AZ) true _ BZ.out).mono ?_);rintro e w' ⟨rfl,⟨nd,rfl⟩⟩;refine ⟨_,rfl,?_⟩))
          go_roundg k2
          case measure=>have:=Bl.out;have:=Bn.out;omega
          case rel=>exact ⟨(wrap64 (AZ + 1)),(by first|rfl|(simp;done)|(simp [*];done)|exact congrArg Value.bool (dL _)|exact congrArg Value.bool (dL _).symm),H',⟨by have:=Bl.out;have:=Bn.out;omega⟩,by repeat (first|exact Drawn0.refl _|apply Drawn0.step)⟩
         ·replace c14:=Bool.eq_false_iff.mpr c14
          subst c14
          have H1 : ((gM.f (bt a0 AZ)).bind fun t198=>(if t198 = true then (bf.l0 k2 a0 (a0.size : Int) (wrap64 (AZ + 1))) else ((dP.f (bt a0 AZ)).bind fun Bg=>(if Bg = true then (bf.l0 k2 a0 (a0.size : Int) (wrap64 (AZ + 1))) else (if (bt a0 AZ) = 95 then (bf.l0 k2 a0 (a0.size : Int) (wrap64 (AZ + 1))) else (some false)))))) = some r:=by rw [if_neg (show ¬ (false = true) by decide)] at H;exact H
          clear H
          have H:=H1
          clear H1
          replace H:=Option.bind_eq_some_iff.mp H
          obtain ⟨t198,Ca,H⟩:=H
          replace H : (if t198 = true then (bf.l0 k2 a0 (a0.size : Int) (wrap64 (AZ + 1))) else ((dP.f (bt a0 AZ)).bind fun Bg=>(if Bg = true then (bf.l0 k2 a0 (a0.size : Int) (wrap64 (AZ + 1))) else (if (bt a0 AZ) = 95 then (bf.l0 k2 a0 (a0.size : Int) (wrap64 (AZ + 1))) else (some false))))) = some r:=H
          have Ci:=Aside0.mk Ca
          clear Ca
          by_cases c17 : t198 = true
          ·subst c17
           have H1 : (bf.l0 k2 a0 (a0.size : Int) (wrap64 (AZ + 1))) = some r:=by rw [if_pos rfl] at H;exact H
           clear H
           have H:=H1
           clear H1
           have H':=Aside0.mk H
           clear H
           have Bq : 0 ≤ (AZ : Int):=of_decide_eq_true (by first|(with_reducible assumption)|assumption)
           have Br : AZ < (a0.size : Int):=of_decide_eq_true (by first|(with_reducible assumption)|assumption)
           have BF:=fB a0 AZ
           replace Bq:=eq_true Bq
           replace Br:=eq_true Br
           go_wp2_with (first|((with_reducible refine bF (f:=73) rfl ?_);refine dN (some 24) rfl rfl Tryz.func73 (by kernel_rfl) rfl #[.int .u8 (bt a0 AZ)] rfl (by (try simp only [List.map_toArray,List.map_cons,List.map_nil]);first|done|rfl|(simp only [List.length_drop,List.length_take];rfl)|(simp (disch:=first|omega|(simp at *;omega)) only [dO,dG,eH];rfl)) ?_;(with_reducible refine (eU.calls (bt a0 AZ) false _ BZ.out).mono ?_);rintro e w' ⟨rfl,⟨nd,rfl⟩⟩;refine ⟨_,rfl,?_⟩;have Bu : 0 ≤ (AZ : Int):=of_decide_eq_true (by first|(with_reducible assumption)|assumption);have Bv : AZ < (a0.size : Int):=of_decide_eq_true (by first|(with_reducible assumption)|assumption);have BN:=fB a0 AZ;replace Bu:=eq_true Bu;replace Bv:=eq_true Bv)|(go_at_call 76;(with_reducible refine (gM.calls (bt a0 AZ) true _ Ci.out).mono ?_);rintro e w' ⟨rfl,⟨nd,rfl⟩⟩))
           go_roundg k2
           case measure=>have:=Bl.out;have:=Bn.out;omega
           case rel=>exact ⟨(wrap64 (AZ + 1)),(by first|rfl|(simp;done)|(simp [*];done)|exact congrArg Value.bool (dL _)|exact congrArg Value.bool (dL _).symm),H',⟨by have:=Bl.out;have:=Bn.out;omega⟩,by repeat (first|exact Drawn0.refl _|apply Drawn0.step)⟩
          ·replace c17:=Bool.eq_false_iff.mpr c17
           subst c17
           have H1 : ((dP.f (bt a0 AZ)).bind fun Bg=>(if Bg = true then (bf.l0 k2 a0 (a0.size : Int) (wrap64 (AZ + 1))) else (if (bt a0 AZ) = 95 then (bf.l0 k2 a0 (a0.size : Int) (wrap64 (AZ + 1))) else (some false)))) = some r:=by rw [if_neg (show ¬ (false = true) by decide)] at H;exact H
           clear H
           have H:=H1
           clear H1
           replace H:=Option.bind_eq_some_iff.mp H
           obtain ⟨Bg,Cb,H⟩:=H
           replace H : (if Bg = true then (bf.l0 k2 a0 (a0.size : Int) (wrap64 (AZ + 1))) else (if (bt a0 AZ) = 95 then (bf.l0 k2 a0 (a0.size : Int) (wrap64 (AZ + 1))) else (some false))) = some r:=H
           have Cm:=Aside0.mk Cb
           clear Cb
           by_cases c20 : Bg = true
           ·subst c20
            have H1 : (bf.l0 k2 a0 (a0.size : Int) (wrap64 (AZ + 1))) = some r:=by rw [if_pos rfl] at H;exact H
            clear H
            have H:=H1
            clear H1
            have H':=Aside0.mk H
            clear H
            have Bq : 0 ≤ (AZ : Int):=of_decide_eq_true (by first|(with_reducible assumption)|assumption)
            have Br : AZ < (a0.size : Int):=of_decide_eq_true (by first|(with_reducible assumption)|assumption)
            have BF:=fB a0 AZ
            replace Bq:=eq_true Bq
            replace Br:=eq_true Br
            go_wp2_with (first|((with_reducible refine bF (f:=73) rfl ?_);refine dN (some 24) rfl rfl Tryz.func73 (by kernel_rfl) rfl #[.int .u8 (bt a0 AZ)] rfl (by (try simp only [List.map_toArray,List.map_cons,List.map_nil]);first|done|rfl|(simp only [List.length_drop,List.length_take];rfl)|(simp (disch:=first|omega|(simp at *;omega)) only [dO,dG,eH];rfl)) ?_;(with_reducible refine (eU.calls (bt a0 AZ) false _ BZ.out).mono ?_);rintro e w' ⟨rfl,⟨nd,rfl⟩⟩;refine ⟨_,rfl,?_⟩;have Bu : 0 ≤ (AZ : Int):=of_decide_eq_true (by first|(with_reducible assumption)|assumption);have Bv : AZ < (a0.size : Int):=of_decide_eq_true (by first|(with_reducible assumption)|assumption);have BN:=fB a0 AZ;replace Bu:=eq_true Bu;replace Bv:=eq_true Bv)|(go_at_call 76;(with_reducible refine (gM.calls (bt a0 AZ) false _ Ci.out).mono ?_);rintro e w' ⟨rfl,⟨nd,rfl⟩⟩;have BI : 0 ≤ (AZ : Int):=of_decide_eq_true (by first|(with_reducible assumption)|assumption);have BJ : AZ < (a0.size : Int):=of_decide_eq_true (by first|(with_reducible assumption)|assumption);have Cc:=fB a0 AZ;replace BI:=eq_true BI;replace BJ:=eq_true BJ)|(go_at_call 74;(with_reducible refine (dP.calls (bt a0 AZ) true _ Cm.out).mono ?_);rintro e w' ⟨rfl,⟨nd,rfl⟩⟩))
            go_roundg k2
            case measure=>have:=Bl.out;have:=Bn.out;omega
            case rel=>exact ⟨(wrap64 (AZ + 1)),(by first|rfl|(simp;done)|(simp [*];done)|exact congrArg Value.bool (dL _)|exact congrArg Value.bool (dL _).symm),H',⟨by have:=Bl.out;have:=Bn.out;omega⟩,by repeat (first|exact Drawn0.refl _|apply Drawn0.step)⟩
           ·replace c20:=Bool.eq_false_iff.mpr c20
            subst c20
            have H1 : (if (bt a0 AZ) = 95 then (bf.l0 k2 a0 (a0.size : Int) (wrap64 (AZ + 1))) else (some false)) = some r:=by rw [if_neg (show ¬ (false = true) by decide)] at H;exact H
            clear H
            have H:=H1
            clear H1
            by_cases BO : (bt a0 AZ) = 95
            ·rw [if_pos BO] at H
             have c22b0 : ((bt a0 AZ) == 95) = true:=beq_iff_eq.mpr BO
             have c22b1 : ((bt a0 AZ) != 95) = false:=bne_eq_false_iff_eq.mpr BO
             clear BO
             have H':=Aside0.mk H
             clear H
             have Bq : 0 ≤ (AZ : Int):=of_decide_eq_true (by first|(with_reducible assumption)|assumption)
             have Br : AZ < (a0.size : Int):=of_decide_eq_true (by first|(with_reducible assumption)|assumption)
             have BF:=fB a0 AZ
             replace Bq:=eq_true Bq
             replace Br:=eq_true Br
             go_wp2_with (first|((with_reducible refine bF (f:=73) rfl ?_);refine dN (some 24) rfl rfl Tryz.func73 (by kernel_rfl) rfl #[.int .u8 (bt a0 AZ)] rfl (by (try simp only [List.map_toArray,List.map_cons,List.map_nil]);first|done|rfl|(simp only [List.length_drop,List.length_take];rfl)|(simp (disch:=first|omega|(simp at *;omega)) only [dO,dG,eH];rfl)) ?_;(with_reducible refine (eU.calls (bt a0 AZ) false _ BZ.out).mono ?_);rintro e w' ⟨rfl,⟨nd,rfl⟩⟩;refine ⟨_,rfl,?_⟩;have Bu : 0 ≤ (AZ : Int):=of_decide_eq_true (by first|(with_reducible assumption)|assumption);have Bv : AZ < (a0.size : Int):=of_decide_eq_true (by first|(with_reducible assumption)|assumption);have BN:=fB a0 AZ;replace Bu:=eq_true Bu;replace Bv:=eq_true Bv)|(go_at_call 76;(with_reducible refine (gM.calls (bt a0 AZ) false _ Ci.out).mono ?_);rintro e w' ⟨rfl,⟨nd,rfl⟩⟩;have BI : 0 ≤ (AZ : Int):=of_decide_eq_true (by first|(with_reducible assumption)|assumption);have BJ : AZ < (a0.size : Int):=of_decide_eq_true (by first|(with_reducible assumption)|assumption);have Cc:=fB a0 AZ;replace BI:=eq_true BI;replace BJ:=eq_true BJ)|(go_at_call 74;(with_reducible refine (dP.calls (bt a0 AZ) false _ Cm.out).mono ?_);rintro e w' ⟨rfl,⟨nd,rfl⟩⟩;have Ce : 0 ≤ (AZ : Int):=of_decide_eq_true (by first|(with_reducible assumption)|assumption);have Cg : AZ < (a0.size : Int):=of_decide_eq_true (by first|(with_reducible assumption)|assumption);have Cn:=fB a0 AZ;replace Ce:=eq_true Ce;replace Cg:=eq_true Cg))
             go_roundg k2
             case measure=>have:=Bl.out;have:=Bn.out;omega
             case rel=>exact ⟨(wrap64 (AZ + 1)),(by first|rfl|(simp;done)|(simp [*];done)|exact congrArg Value.bool (dL _)|exact congrArg Value.bool (dL _).symm),H',⟨by have:=Bl.out;have:=Bn.out;omega⟩,by repeat (first|exact Drawn0.refl _|apply Drawn0.step)⟩
            ·rw [if_neg BO] at H
             have c22b0 : ((bt a0 AZ) == 95) = false:=beq_eq_false_iff_ne.mpr BO
             have c22b1 : ((bt a0 AZ) != 95) = true:=bne_iff_ne.mpr BO
             obtain rfl:=Option.some.inj H
             have Bq : 0 ≤ (AZ : Int):=of_decide_eq_true (by first|(with_reducible assumption)|assumption)
             have Br : AZ < (a0.size : Int):=of_decide_eq_true (by first|(with_reducible assumption)|assumption)
             have BF:=fB a0 AZ
             replace Bq:=eq_true Bq
             replace Br:=eq_true Br
             go_wp2_with (first|((with_reducible refine bF (f:=73) rfl ?_);refine dN (some 24) rfl rfl Tryz.func73 (by kernel_rfl) rfl #[.int .u8 (bt a0 AZ)] rfl (by (try simp only [List.map_toArray,List.map_cons,List.map_nil]);first|done|rfl|(simp only [List.length_drop,List.length_take];rfl)|(simp (disch:=first|omega|(simp at *;omega)) only [dO,dG,eH];rfl)) ?_;(with_reducible refine (eU.calls (bt a0 AZ) false _ BZ.out).mono ?_);rintro e w' ⟨rfl,⟨nd,rfl⟩⟩;refine ⟨_,rfl,?_⟩;have Bu : 0 ≤ (AZ : Int):=of_decide_eq_true (by first|(with_reducible assumption)|assumption);have Bv : AZ < (a0.size : Int):=of_decide_eq_true (by first|(with_reducible assumption)|assumption);have BN:=fB a0 AZ;replace Bu:=eq_true Bu;replace Bv:=eq_true Bv)|(go_at_call 76;(with_reducible refine (gM.calls (bt a0 AZ) false _ Ci.out).mono ?_);rintro e w' ⟨rfl,⟨nd,rfl⟩⟩;have BI : 0 ≤ (AZ : Int):=of_decide_eq_true (by first|(with_reducible assumption)|assumption);have BJ : AZ < (a0.size : Int):=of_decide_eq_true (by first|(with_reducible assumption)|assumption);have Cc:=fB a0 AZ;replace BI:=eq_true BI;replace BJ:=eq_true BJ)|(go_at_call 74;(with_reducible refine (dP.calls (bt a0 AZ) false _ Cm.out).mono ?_);rintro e w' ⟨rfl,⟨nd,rfl⟩⟩;have Ce : 0 ≤ (AZ : Int):=of_decide_eq_true (by first|(with_reducible assumption)|assumption);have Cg : AZ < (a0.size : Int):=of_decide_eq_true (by first|(with_reducible assumption)|assumption);have Cn:=fB a0 AZ;replace Ce:=eq_true Ce;replace Cg:=eq_true Cg))
             go_ret
             exact ⟨by first|rfl|(simp;done)|(simp [*];done),by repeat (first|exact Drawn0.refl _|apply Drawn0.step)⟩
        ·rw [if_neg c11] at H
         exact absurd H (by simp)
       ·rw [if_neg c10] at H
        exact absurd H (by simp)
      ·rw [if_neg c9] at H
       have c9b0 : decide (AZ < (a0.size : Int)) = false:=decide_eq_false c9
       clear c9
       obtain rfl:=Option.some.inj H
       go_wp2
       go_ret
       exact ⟨by first|rfl|(simp;done)|(simp [*];done),by repeat (first|exact Drawn0.refl _|apply Drawn0.step)⟩
end Go.Proofs.YtpflenjhmeaeoaaGreatDoor.GUt
