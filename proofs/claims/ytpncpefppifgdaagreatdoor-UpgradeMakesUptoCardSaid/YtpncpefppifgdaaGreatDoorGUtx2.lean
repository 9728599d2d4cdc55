/- Written by this session's own program (wip/gen.py) out of the translation: plain Lean functions of the Go functions, and proofs that the calls come to their answers. No conditions beside those in the statements. -/
import Derived.Test.YtpncpefppifgdaaGreatDoorGUtx0
import Derived.Test.YtpncpefppifgdaaGreatDoorGUtx1
namespace Go.Proofs.YtpncpefppifgdaaGreatDoor.GUt
open Go.RowKit Go.Proofs.YtpncpefppifgdaaGreatDoorW.PrintWords Go.Proofs.YtpncpefppifgdaaGreatDoorW.PrintLast Go.Proofs.YtpncpefppifgdaaGreatDoorW.PrintMore
attribute [local go_sem] fZ gq gM gN fM fO gu gD
set_option linter.unusedVariables false
set_option linter.unusedSimpArgs false
mutual
def bg.j0 : Nat → ByteArray → Bool → Option (Bool)
 | 0,_,_=>none
 | k + 1,x0,x23=>if x23 = true then (some false) else (bg.l0 k x0 (x0.size : Int) 0)
def bg.l0 : Nat → ByteArray → Int → Int → Option (Bool)
 | 0,_,_,_=>none
 | k + 1,x0,x25,BQ=>if BQ < x25 then (if 0 ≤ BQ then (if BQ < (x0.size : Int) then ((eP.f (bt x0 BQ)).bind fun BR=>(if BR = true then (bg.l0 k x0 x25 (wrap64 (BQ + 1))) else ((dN.f (bt x0 BQ)).bind fun t119=>(if t119 = true then (bg.l0 k x0 x25 (wrap64 (BQ + 1))) else (if (bt x0 BQ) = 45 then (bg.l0 k x0 x25 (wrap64 (BQ + 1))) else (some false)))))) else (none)) else (none)) else (some true)
end
def bg.f (k : Nat) (a0 : ByteArray) : Option (Bool):=if a0.toList = ([] : List UInt8) then (bg.j0 k a0 true) else (if (a0.size : Int) > 63 then (bg.j0 k a0 true) else (if 0 < (a0.size : Int) then (if (bt a0 0) = 45 then (bg.j0 k a0 true) else (if 0 ≤ (wrap64 ((a0.size : Int) - 1)) then (if (wrap64 ((a0.size : Int) - 1)) < (a0.size : Int) then (bg.j0 k a0 ((bt a0 (wrap64 ((a0.size : Int) - 1))) == 45)) else (none)) else (none))) else (none)))
theorem bg.eB : ∀ k,(∀ y0 y1,LeO (bg.j0 k y0 y1) (bg.j0 (k + 1) y0 y1)) ∧ (∀ y0 y1 y2,LeO (bg.l0 k y0 y1 y2) (bg.l0 (k + 1) y0 y1 y2))
 | 0=>⟨fun _ _ r h=>by simp [bg.j0] at h,fun _ _ _ r h=>by simp [bg.l0] at h⟩
 | k + 1=>by
  obtain ⟨BD,ih1⟩:=bg.eB k
  refine ⟨?_,?_⟩
  ·intro y0 y1
   unfold bg.j0
   repeat' first
   | (with_reducible exact BD _ _)
   | (with_reducible exact ih1 _ _ _)
   | (with_reducible exact LeO.refl _)
   | (with_reducible exact LeO.none _)
   | (with_reducible refine LeO.ite ?_ ?_)
   | (with_reducible refine LeO.bind ?_ (fun _=>?_))
   | exact BD _ _
   | exact ih1 _ _ _
   | exact LeO.none _
   | refine LeO.ite ?_ ?_
   | refine LeO.bind ?_ (fun _=>?_)
  ·intro y0 y1 y2
   unfold bg.l0
   repeat' first
   | (with_reducible exact BD _ _)
   | (with_reducible exact ih1 _ _ _)
   | (with_reducible exact LeO.refl _)
   | (with_reducible exact LeO.none _)
   | (with_reducible refine LeO.ite ?_ ?_)
   | (with_reducible refine LeO.bind ?_ (fun _=>?_))
   | exact BD _ _
   | exact ih1 _ _ _
   | exact LeO.none _
   | refine LeO.ite ?_ ?_
   | refine LeO.bind ?_ (fun _=>?_)
theorem bg.mono : ∀ a0 k,LeO (bg.f k a0) (bg.f (k + 1) a0):=by
 intro a0 k
 obtain ⟨BD,ih1⟩:=bg.eB k
 unfold bg.f
 repeat' first
   | (with_reducible exact BD _ _)
   | (with_reducible exact ih1 _ _ _)
   | (with_reducible exact LeO.refl _)
   | (with_reducible exact LeO.none _)
   | (with_reducible refine LeO.ite ?_ ?_)
   | (with_reducible refine LeO.bind ?_ (fun _=>?_))
   | exact BD _ _
   | exact ih1 _ _ _
   | exact LeO.none _
   | refine LeO.ite ?_ ?_
   | refine LeO.bind ?_ (fun _=>?_)
set_option maxHeartbeats 8000000 in
set_option maxRecDepth 100000 in
theorem bg.calls (k : Nat) (a0 : ByteArray) (r : Bool) (w : World) (h : bg.f k a0 = some r) :
  Calls Tryz.prog 70 #[.string a0] w fun e w'=>e = .returned (.bool r) ∧ Drawn0 w w':=by
 have H : (if a0.toList = ([] : List UInt8) then (bg.j0 k a0 true) else (if (a0.size : Int) > 63 then (bg.j0 k a0 true) else (if 0 < (a0.size : Int) then (if (bt a0 0) = 45 then (bg.j0 k a0 true) else (if 0 ≤ (wrap64 ((a0.size : Int) - 1)) then (if (wrap64 ((a0.size : Int) - 1)) < (a0.size : Int) then (bg.j0 k a0 ((bt a0 (wrap64 ((a0.size : Int) - 1))) == 45)) else (none)) else (none))) else (none)))) = some r:=h
 clear h
 have Cg:=Aside0.mk H
 clear H
 go_enter Tryz.func70,Tryz.ntmps70
 go_upto_region 1 with (fail)
 go_cut [23] (fun v23 wc=>∃ (kq : Nat) (BI : Bool),v23 = .bool BI ∧ Aside0 (bg.j0 kq a0 BI = some r) ∧ Aside0 (kq ≤ k) ∧ Drawn0 w wc)
 case first =>
  have H:=Cg.out
  clear Cg
  by_cases c3 : a0.toList = ([] : List UInt8)
  ·rw [if_pos c3] at H
   have c3b0 : (a0.toList == ([] : List UInt8)) = true:=beq_iff_eq.mpr c3
   have c3b1 : (a0.toList != ([] : List UInt8)) = false:=bne_eq_false_iff_eq.mpr c3
   clear c3
   (first|rw [c3b0]|(simp only [bJ,bK];rw [c3b0])|skip)
   have H':=Aside0.mk H
   clear H
   go_wp2
   go_meet
   case rel=>exact ⟨_,(true),(by first|rfl|(simp;done)|(simp [*];done)|exact congrArg Value.bool (dI _)|exact congrArg Value.bool (dI _).symm),H',⟨by first|omega|exact Nat.le_refl _⟩,by repeat (first|exact Drawn0.refl _|apply Drawn0.step)⟩
  ·rw [if_neg c3] at H
   have c3b0 : (a0.toList == ([] : List UInt8)) = false:=beq_eq_false_iff_ne.mpr c3
   have c3b1 : (a0.toList != ([] : List UInt8)) = true:=bne_iff_ne.mpr c3
   (first|rw [c3b0]|(simp only [bJ,bK];rw [c3b0])|skip)
   by_cases c4 : (a0.size : Int) > 63
   ·rw [if_pos c4] at H
    have c4b0 : decide (63 < (a0.size : Int)) = true:=decide_eq_true c4
    have c4b1 : decide (63 < a0.size) = true:=decide_eq_true (by omega)
    clear c4
    have H':=Aside0.mk H
    clear H
    go_wp2
    go_meet
    case rel=>exact ⟨_,(true),(by first|rfl|(simp;done)|(simp [*];done)|exact congrArg Value.bool (dI _)|exact congrArg Value.bool (dI _).symm),H',⟨by first|omega|exact Nat.le_refl _⟩,by repeat (first|exact Drawn0.refl _|apply Drawn0.step)⟩
   ·rw [if_neg c4] at H
    have c4b0 : decide (63 < (a0.size : Int)) = false:=decide_eq_false c4
    have c4b1 : decide (63 < a0.size) = false:=decide_eq_false (by omega)
    clear c4
    by_cases c5 : 0 < (a0.size : Int)
    ·rw [if_pos c5] at H
     have c5b0 : decide (0 < (a0.size : Int)) = true:=decide_eq_true c5
     have c5b1 : decide (0 < a0.size) = true:=decide_eq_true (by omega)
     clear c5
     by_cases c7 : (bt a0 0) = 45
     ·rw [if_pos c7] at H
      have c7b0 : ((bt a0 0) == 45) = true:=beq_iff_eq.mpr c7
      have c7b1 : ((bt a0 0) != 45) = false:=bne_eq_false_iff_eq.mpr c7
      clear c7
      have H':=Aside0.mk H
      clear H
      have p6 : 0 ≤ (0 : Int):=(by omega)
      have q6 : 0 < a0.size:=(by have : (0 : Int) < (a0.size : Int):=of_decide_eq_true (by first|(with_reducible assumption)|assumption);omega)
      have hx6 : ∀ h : 0 < a0.size,((a0[0]'h).toNat : Int) = bt a0 0:=eU a0 0
      clear p6
      have Ck : (0 < (a0.size : Int)) = True:=eq_true (of_decide_eq_true (by first|(with_reducible assumption)|assumption))
      replace q6:=eq_true q6
      go_wp2
      go_meet
      case rel=>exact ⟨_,(true),(by first|rfl|(simp;done)|(simp [*];done)|exact congrArg Value.bool (dI _)|exact congrArg Value.bool (dI _).symm),H',⟨by first|omega|exact Nat.le_refl _⟩,by repeat (first|exact Drawn0.refl _|apply Drawn0.step)⟩
     ·rw [if_neg c7] at H
      have c7b0 : ((bt a0 0) == 45) = false:=beq_eq_false_iff_ne.mpr c7
      have c7b1 : ((bt a0 0) != 45) = true:=bne_iff_ne.mpr c7
      obtain ⟨BN,BS⟩ : ∃ j_ : Int,(wrap64 ((a0.size : Int) - 1)) = j_:=⟨_,rfl⟩
      replace H : (if 0 ≤ (BN) then (if (BN) < (a0.size : Int) then (bg.j0 k a0 ((bt a0 (BN)) == 45)) else (none)) else (none)) = some r:=by first|(rw [BS] at H;exact H)|(simp only [BS] at H ⊢;exact H)
      have hji8w : (IntKind.i64.wrap ((a0.size : Int) - 1)) = BN:=(bJ _).trans BS
      by_cases c9 : 0 ≤ (BN)
      ·rw [if_pos c9] at H
       have c9b0 : decide (0 ≤ (BN)) = true:=decide_eq_true c9
       clear c9
       by_cases c10 : (BN) < (a0.size : Int)
       ·rw [if_pos c10] at H
        have c10b0 : decide ((BN) < (a0.size : Int)) = true:=decide_eq_true c10
        clear c10
        have H':=Aside0.mk H
        clear H
        have p6 : 0 ≤ (0 : Int):=(by omega)
        have q6 : 0 < a0.size:=(by have : (0 : Int) < (a0.size : Int):=of_decide_eq_true (by first|(with_reducible assumption)|assumption);omega)
        have hx6 : ∀ h : 0 < a0.size,((a0[0]'h).toNat : Int) = bt a0 0:=eU a0 0
        clear p6
        have Ck : (0 < (a0.size : Int)) = True:=eq_true (of_decide_eq_true (by first|(with_reducible assumption)|assumption))
        replace q6:=eq_true q6
        have Cm : 0 ≤ ((BN) : Int):=of_decide_eq_true (by first|(with_reducible assumption)|assumption)
        have Cn : (BN) < (a0.size : Int):=of_decide_eq_true (by first|(with_reducible assumption)|assumption)
        have Co:=eU a0 (BN)
        replace Cm:=eq_true Cm
        replace Cn:=eq_true Cn
        go_wp2
        go_meet
        case rel=>exact ⟨_,(((bt a0 (BN)) == 45)),(by first|rfl|(simp;done)|(simp only [← BS] <;> (first|rfl|simp))|(simp [*];done)|exact congrArg Value.bool (dI _)|exact congrArg Value.bool (dI _).symm),H',⟨by first|omega|exact Nat.le_refl _⟩,by repeat (first|exact Drawn0.refl _|apply Drawn0.step)⟩
       ·rw [if_neg c10] at H
        exact absurd H (by simp)
      ·rw [if_neg c9] at H
       exact absurd H (by simp)
    ·rw [if_neg c5] at H
     exact absurd H (by simp)
 case rest =>
  clear Cg
  try clear c1
  try clear p1
  try clear q1
  try clear hx1
  try clear p2
  try clear c3
  try clear c3b0
  try clear c3b1
  try clear c4
  try clear c4b0
  try clear c4b1
  try clear c5
  try clear c5b0
  try clear c5b1
  try clear p6
  try clear q6
  try clear hx6
  try clear Ck
  try clear c7
  try clear c7b0
  try clear c7b1
  try clear c9
  try clear c9b0
  try clear c10
  try clear c10b0
  try clear Cm
  try clear Cn
  try clear Co
  try clear Cm
  try clear p6
  try clear Cn
  try clear q6
  obtain ⟨kq,BI,rfl,HA,BF,⟨CX,rfl⟩⟩:=hcut
  cases kq with
  | zero=>exact absurd HA.out (by simp [bg.j0])
  | succ Ch =>
   have H:=HA.out
   clear HA
   simp only [bg.j0] at H
   by_cases c12 : BI = true
   ·subst c12
    have H1 : (some false) = some r:=by rw [if_pos rfl] at H;exact H
    clear H
    have H:=H1
    clear H1
    obtain rfl:=Option.some.inj H
    go_wp2
    go_ret
    exact ⟨by first|rfl|(simp;done)|(simp [*];done),by repeat (first|exact Drawn0.refl _|apply Drawn0.step)⟩
   ·replace c12:=Bool.eq_false_iff.mpr c12
    subst c12
    have H1 : (bg.l0 Ch a0 (a0.size : Int) 0) = some r:=by rw [if_neg (show ¬ (false = true) by decide)] at H;exact H
    clear H
    have H:=H1
    clear H1
    have H':=Aside0.mk H
    clear H
    go_wp2
    go_loopg [26] Ch (fun kq v26 w'=>∃ (Bv : Int),v26 = .int .i64 Bv ∧ Aside0 (bg.l0 kq a0 (a0.size : Int) Bv = some r) ∧ Aside0 (kq ≤ Ch) ∧ Drawn0 w w')
    case atStart=>exact ⟨(0),(by first|rfl|(simp;done)|(simp [*];done)|exact congrArg Value.bool (dI _)|exact congrArg Value.bool (dI _).symm),H',⟨Nat.le_refl _⟩,by repeat (first|exact Drawn0.refl _|apply Drawn0.step)⟩
    case round =>
     clear H'
     try clear c1
     try clear p1
     try clear q1
     try clear hx1
     try clear p2
     try clear c3
     try clear c3b0
     try clear c3b1
     try clear c4
     try clear c4b0
     try clear c4b1
     try clear c5
     try clear c5b0
     try clear c5b1
     try clear p6
     try clear q6
     try clear hx6
     try clear Ck
     try clear c7
     try clear c7b0
     try clear c7b1
     try clear c9
     try clear c9b0
     try clear c10
     try clear c10b0
     try clear Cm
     try clear Cn
     try clear Co
     try clear c12
     try clear p1
     try clear Cm
     try clear p2
     try clear p6
     try clear q1
     try clear Cn
     try clear q6
     obtain ⟨Bv,rfl,HA,BG,⟨m2,rfl⟩⟩:=hrel
     cases gk with
     | zero=>exact absurd HA.out (by simp [bg.l0])
     | succ k2 =>
      have H:=HA.out
      clear HA
      simp only [bg.l0] at H
      by_cases c13 : Bv < (a0.size : Int)
      ·rw [if_pos c13] at H
       have c13b0 : decide (Bv < (a0.size : Int)) = true:=decide_eq_true c13
       clear c13
       by_cases c14 : 0 ≤ Bv
       ·rw [if_pos c14] at H
        have c14b0 : decide (0 ≤ Bv) = true:=decide_eq_true c14
        clear c14
        by_cases c15 : Bv < (a0.size : Int)
        ·rw [if_pos c15] at H
         have c15b0 : decide (Bv < (a0.size : Int)) = true:=decide_eq_true c15
         clear c15
         replace H:=Option.bind_eq_some_iff.mp H
         obtain ⟨BR,Cq,H⟩:=H
         replace H : (if BR = true then (bg.l0 k2 a0 (a0.size : Int) (wrap64 (Bv + 1))) else ((dN.f (bt a0 Bv)).bind fun t119=>(if t119 = true then (bg.l0 k2 a0 (a0.size : Int) (wrap64 (Bv + 1))) else (if (bt a0 Bv) = 45 then (bg.l0 k2 a0 (a0.size : Int) (wrap64 (Bv + 1))) else (some false))))) = some r:=H
         have CO:=Aside0.mk Cq
         clear Cq
         by_cases c18 : BR = true
         ·subst c18
          have H1 : (bg.l0 k2 a0 (a0.size : Int) (wrap64 (Bv + 1))) = some r:=by rw [if_pos rfl] at H;exact H
          clear H
          have H:=H1
          clear H1
          have H':=Aside0.mk H
          clear H
          have p16 : 0 ≤ (Bv : Int):=of_decide_eq_true (by first|(with_reducible assumption)|assumption)
          have q16 : Bv < (a0.size : Int):=of_decide_eq_true (by first|(with_reducible assumption)|assumption)
          have hx16:=eU a0 Bv
          replace p16:=eq_true p16
          replace q16:=eq_true q16
          go_wp2_with (first|((with_reducible refine bO (f:=92) rfl ?_);refine dZ (some 32) rfl rfl Tryz.func92 (by kernel_rfl) rfl #[.int .u8 (bt a0 Bv)] rfl (by (try simp only [List.map_toArray,List.map_cons,List.map_nil]);first|done|rfl|(simp only [List.length_drop,List.length_take];rfl)|(simp (disch:=first|omega|(simp at *;omega)) only [eu,dD,fA];rfl)) ?_;(with_reducible refine (eP.calls (bt a0 Bv) true _ CO.out).mono ?_);rintro e w' ⟨rfl,⟨nd,rfl⟩⟩;refine ⟨_,rfl,?_⟩))
          go_roundg k2
          case measure=>have:=BF.out;have:=BG.out;omega
          case rel=>exact ⟨(wrap64 (Bv + 1)),(by first|rfl|(simp;done)|(simp [*];done)|exact congrArg Value.bool (dI _)|exact congrArg Value.bool (dI _).symm),H',⟨by have:=BF.out;have:=BG.out;omega⟩,by repeat (first|exact Drawn0.refl _|apply Drawn0.step)⟩
         ·replace c18:=Bool.eq_false_iff.mpr c18
          subst c18
          have H1 : ((dN.f (bt a0 Bv)).bind fun t119=>(if t119 = true then (bg.l0 k2 a0 (a0.size : Int) (wrap64 (Bv + 1))) else (if (bt a0 Bv) = 45 then (bg.l0 k2 a0 (a0.size : Int) (wrap64 (Bv + 1))) else (some false)))) = some r:=by rw [if_neg (show ¬ (false = true) by decide)] at H;exact H
          clear H
          have H:=H1
          clear H1
          replace H:=Option.bind_eq_some_iff.mp H
          obtain ⟨t119,Cr,H⟩:=H
          replace H : (if t119 = true then (bg.l0 k2 a0 (a0.size : Int) (wrap64 (Bv + 1))) else (if (bt a0 Bv) = 45 then (bg.l0 k2 a0 (a0.size : Int) (wrap64 (Bv + 1))) else (some false))) = some r:=H
          have CQ:=Aside0.mk Cr
          clear Cr
          by_cases c21 : t119 = true
          ·subst c21
           have H1 : (bg.l0 k2 a0 (a0.size : Int) (wrap64 (Bv + 1))) = some r:=by rw [if_pos rfl] at H;exact H
           clear H
           have H:=H1
           clear H1
           have H':=Aside0.mk H
           clear H
           have p16 : 0 ≤ (Bv : Int):=of_decide_eq_true (by first|(with_reducible assumption)|assumption)
           have q16 : Bv < (a0.size : Int):=of_decide_eq_true (by first|(with_reducible assumption)|assumption)
           have hx16:=eU a0 Bv
           replace p16:=eq_true p16
           replace q16:=eq_true q16
           go_wp2_with (first|((with_reducible refine bO (f:=92) rfl ?_);refine dZ (some 32) rfl rfl Tryz.func92 (by kernel_rfl) rfl #[.int .u8 (bt a0 Bv)] rfl (by (try simp only [List.map_toArray,List.map_cons,List.map_nil]);first|done|rfl|(simp only [List.length_drop,List.length_take];rfl)|(simp (disch:=first|omega|(simp at *;omega)) only [eu,dD,fA];rfl)) ?_;(with_reducible refine (eP.calls (bt a0 Bv) false _ CO.out).mono ?_);rintro e w' ⟨rfl,⟨nd,rfl⟩⟩;refine ⟨_,rfl,?_⟩;have Ca : 0 ≤ (Bv : Int):=of_decide_eq_true (by first|(with_reducible assumption)|assumption);have Cb : Bv < (a0.size : Int):=of_decide_eq_true (by first|(with_reducible assumption)|assumption);have Ct:=eU a0 Bv;replace Ca:=eq_true Ca;replace Cb:=eq_true Cb)|(go_at_call 93;(with_reducible refine (dN.calls (bt a0 Bv) true _ CQ.out).mono ?_);rintro e w' ⟨rfl,⟨nd,rfl⟩⟩))
           go_roundg k2
           case measure=>have:=BF.out;have:=BG.out;omega
           case rel=>exact ⟨(wrap64 (Bv + 1)),(by first|rfl|(simp;done)|(simp [*];done)|exact congrArg Value.bool (dI _)|exact congrArg Value.bool (dI _).symm),H',⟨by have:=BF.out;have:=BG.out;omega⟩,by repeat (first|exact Drawn0.refl _|apply Drawn0.step)⟩
          ·replace c21:=Bool.eq_false_iff.mpr c21
           subst c21
           have H1 : (if (bt a0 Bv) = 45 then (bg.l0 k2 a0 (a0.size : Int) (wrap64 (Bv + 1))) else (some false)) = some r:=by rw [if_neg (show ¬ (false = true) by decide)] at H;exact H
           clear H
           have H:=H1
           clear H1
           by_cases c23 : (bt a0 Bv) = 45
           ·rw [if_pos c23] at H
            have c23b0 : ((bt a0 Bv) == 45) = true:=beq_iff_eq.mpr c23
            have c23b1 : ((bt a0 Bv) != 45) = false:=bne_eq_false_iff_eq.mpr c23
            clear c23
            have H':=Aside0.mk H
            clear H
            have p16 : 0 ≤ (Bv : Int):=of_decide_eq_true (by first|(with_reducible assumption)|assumption)
            have q16 : Bv < (a0.size : Int):=of_decide_eq_true (by first|(with_reducible assumption)|assumption)
            have hx16:=eU a0 Bv
            replace p16:=eq_true p16
            replace q16:=eq_true q16
            go_wp2_with (first|((with_reducible refine bO (f:=92) rfl ?_);refine dZ (some 32) rfl rfl Tryz.func92 (by kernel_rfl) rfl #[.int .u8 (bt a0 Bv)] rfl (by (try simp only [List.map_toArray,List.map_cons,List.map_nil]);first|done|rfl|(simp only [List.length_drop,List.length_take];rfl)|(simp (disch:=first|omega|(simp at *;omega)) only [eu,dD,fA];rfl)) ?_;(with_reducible refine (eP.calls (bt a0 Bv) false _ CO.out).mono ?_);rintro e w' ⟨rfl,⟨nd,rfl⟩⟩;refine ⟨_,rfl,?_⟩;have Ca : 0 ≤ (Bv : Int):=of_decide_eq_true (by first|(with_reducible assumption)|assumption);have Cb : Bv < (a0.size : Int):=of_decide_eq_true (by first|(with_reducible assumption)|assumption);have Ct:=eU a0 Bv;replace Ca:=eq_true Ca;replace Cb:=eq_true Cb)|(go_at_call 93;(with_reducible refine (dN.calls (bt a0 Bv) false _ CQ.out).mono ?_);rintro e w' ⟨rfl,⟨nd,rfl⟩⟩;have Cu : 0 ≤ (Bv : Int):=of_decide_eq_true (by first|(with_reducible assumption)|assumption);have q22 : Bv < (a0.size : Int):=of_decide_eq_true (by first|(with_reducible assumption)|assumption);have CS:=eU a0 Bv;replace Cu:=eq_true Cu;replace q22:=eq_true q22))
            go_roundg k2
            case measure=>have:=BF.out;have:=BG.out;omega
            case rel=>exact ⟨(wrap64 (Bv + 1)),(by first|rfl|(simp;done)|(simp [*];done)|exact congrArg Value.bool (dI _)|exact congrArg Value.bool (dI _).symm),H',⟨by have:=BF.out;have:=BG.out;omega⟩,by repeat (first|exact Drawn0.refl _|apply Drawn0.step)⟩
           ·rw [if_neg c23] at H
            have c23b0 : ((bt a0 Bv) == 45) = false:=beq_eq_false_iff_ne.mpr c23
            have c23b1 : ((bt a0 Bv) != 45) = true:=bne_iff_ne.mpr c23
            obtain rfl:=Option.some.inj H
            have p16 : 0 ≤ (Bv : Int):=of_decide_eq_true (by first|(with_reducible assumption)|assumption)
            have q16 : Bv < (a0.size : Int):=of_decide_eq_true (by first|(with_reducible assumption)|assumption)
            have hx16:=eU a0 Bv
            replace p16:=eq_true p16
            replace q16:=eq_true q16
            go_wp2_with (first|((with_reducible refine bO (f:=92) rfl ?_);refine dZ (some 32) rfl rfl Tryz.func92 (by kernel_rfl) rfl #[.int .u8 (bt a0 Bv)] rfl (by (try simp only [List.map_toArray,List.map_cons,List.map_nil]);first|done|rfl|(simp only [List.length_drop,List.length_take];rfl)|(simp (disch:=first|omega|(simp at *;omega)) only [eu,dD,fA];rfl)) ?_;(with_reducible refine (eP.calls (bt a0 Bv) false _ CO.out).mono ?_);rintro e w' ⟨rfl,⟨nd,rfl⟩⟩;refine ⟨_,rfl,?_⟩;have Ca : 0 ≤ (Bv : Int):=of_decide_eq_true (by first|(with_reducible assumption)|assumption);have Cb : Bv < (a0.size : Int):=of_decide_eq_true (by first|(with_reducible assumption)|assumption);have Ct:=eU a0 Bv;replace Ca:=eq_true Ca;replace Cb:=eq_true Cb)|(go_at_call 93;(with_reducible refine (dN.calls (bt a0 Bv) false _ CQ.out).mono ?_);rintro e w' ⟨rfl,⟨nd,rfl⟩⟩;have Cu : 0 ≤ (Bv : Int):=of_decide_eq_true (by first|(with_reducible assumption)|assumption);have q22 : Bv < (a0.size : Int):=of_decide_eq_true (by first|(with_reducible assumption)|assumption);have CS:=eU a0 Bv;replace Cu:=eq_true Cu;replace q22:=eq_true q22))
            go_ret
            exact ⟨by first|rfl|(simp;done)|(simp [*];done),by repeat (first|exact Drawn0.refl _|apply Drawn0.step)⟩
        ·rw [if_neg c15] at H
         exact absurd H (by simp)
       ·rw [if_neg c14] at H
        exact absurd H (by simp)
      ·rw [if_neg c13] at H
       have c13b0 : decide (Bv < (a0.size : Int)) = false:=decide_eq_false c13
       clear c13
       obtain rfl:=Option.some.inj H
       go_wp2
       go_ret
       exact ⟨by first|rfl|(simp;done)|(simp [*];done),by repeat (first|exact Drawn0.refl _|apply Drawn0.step)⟩
def fT.f (a0 : Int) : Option (Bool):=if a0 ≥ 65 then (some (decide (a0 ≤ 90))) else (some false)
set_option maxHeartbeats 8000000 in
set_option maxRecDepth 100000 in
theorem fT.calls (a0 : Int) (r : Bool) (w : World) (h : fT.f a0 = some r) :
  Calls Tryz.prog 95 #[.int .u8 a0] w fun e w'=>e = .returned (.bool r) ∧ Drawn0 w w':=by
 have H : (if a0 ≥ 65 then (some (decide (a0 ≤ 90))) else (some false)) = some r:=h
 clear h
 by_cases c2 : a0 ≥ 65
 ·rw [if_pos c2] at H
  have c2b0 : decide (65 ≤ a0) = true:=decide_eq_true c2
  clear c2
  obtain rfl:=Option.some.inj H
  go_enter Tryz.func95,Tryz.ntmps95
  go_wp2
  go_ret
  exact ⟨by first|rfl|(simp;done)|(simp [*];done),by repeat (first|exact Drawn0.refl _|apply Drawn0.step)⟩
 ·rw [if_neg c2] at H
  have c2b0 : decide (65 ≤ a0) = false:=decide_eq_false c2
  clear c2
  obtain rfl:=Option.some.inj H
  go_enter Tryz.func95,Tryz.ntmps95
  go_wp2
  go_ret
  exact ⟨by first|rfl|(simp;done)|(simp [*];done),by repeat (first|exact Drawn0.refl _|apply Drawn0.step)⟩
mutual
def bf.j0 : Nat → ByteArray → Bool → Option (Bool)
 | 0,_,_=>none
 | k + 1,x0,CY=>if CY = true then (some false) else (bf.l0 k x0 (x0.size : Int) 0)
def bf.l0 : Nat → ByteArray → Int → Int → Option (Bool)
 | 0,_,_,_=>none
 | k + 1,x0,Cv,x18=>if x18 < Cv then (if 0 ≤ x18 then (if x18 < (x0.size : Int) then ((eP.f (bt x0 x18)).bind fun BU=>(if BU = true then (bf.l0 k x0 Cv (wrap64 (x18 + 1))) else ((fT.f (bt x0 x18)).bind fun Bz=>(if Bz = true then (bf.l0 k x0 Cv (wrap64 (x18 + 1))) else ((dN.f (bt x0 x18)).bind fun Bw=>(if Bw = true then (bf.l0 k x0 Cv (wrap64 (x18 + 1))) else (if (bt x0 x18) = 95 then (bf.l0 k x0 Cv (wrap64 (x18 + 1))) else (some false)))))))) else (none)) else (none)) else (some true)
end
def bf.f (k : Nat) (a0 : ByteArray) : Option (Bool):=if a0.toList = ([] : List UInt8) then (bf.j0 k a0 true) else (if (a0.size : Int) > 63 then (bf.j0 k a0 true) else (if 0 < (a0.size : Int) then ((dN.f (bt a0 0)).bind fun BH=>(bf.j0 k a0 BH)) else (none)))
theorem bf.eB : ∀ k,(∀ y0 y1,LeO (bf.j0 k y0 y1) (bf.j0 (k + 1) y0 y1)) ∧ (∀ y0 y1 y2,LeO (bf.l0 k y0 y1 y2) (bf.l0 (k + 1) y0 y1 y2))
 | 0=>⟨fun _ _ r h=>by simp [bf.j0] at h,fun _ _ _ r h=>by simp [bf.l0] at h⟩
 | k + 1=>by
  obtain ⟨BD,ih1⟩:=bf.eB k
  refine ⟨?_,?_⟩
  ·intro y0 y1
   unfold bf.j0
   repeat' first
   | (with_reducible exact BD _ _)
   | (with_reducible exact ih1 _ _ _)
   | (with_reducible exact LeO.refl _)
   | (with_reducible exact LeO.none _)
   | (with_reducible refine LeO.ite ?_ ?_)
   | (with_reducible refine LeO.bind ?_ (fun _=>?_))
   | exact BD _ _
   | exact ih1 _ _ _
   | exact LeO.none _
   | refine LeO.ite ?_ ?_
   | refine LeO.bind ?_ (fun _=>?_)
  ·intro y0 y1 y2
   unfold bf.l0
   repeat' first
   | (with_reducible exact BD _ _)
   | (with_reducible exact ih1 _ _ _)
   | (with_reducible exact LeO.refl _)
   | (with_reducible exact LeO.none _)
   | (with_reducible refine LeO.ite ?_ ?_)
   | (with_reducible refine LeO.bind ?_ (fun _=>?_))
   | exact BD _ _
   | exact ih1 _ _ _
   | exact LeO.none _
   | refine LeO.ite ?_ ?_
   | refine LeO.bind ?_ (fun _=>?_)
theorem bf.mono : ∀ a0 k,LeO (bf.f k a0) (bf.f (k + 1) a0):=by
 intro a0 k
 obtain ⟨BD,ih1⟩:=bf.eB k
 unfold bf.f
 repeat' first
   | (with_reducible exact BD _ _)
   | (with_reducible exact ih1 _ _ _)
   | (with_reducible exact LeO.refl _)
   | (with_reducible exact LeO.none _)
   | (with_reducible refine LeO.ite ?_ ?_)
   | (with_reducible refine LeO.bind ?_ (fun _=>?_))
   | exact BD _ _
   | exact ih1 _ _ _
   | exact LeO.none _
   | refine LeO.ite ?_ ?_
   | refine LeO.bind ?_ (fun _=>?_)
set_option maxHeartbeats 8000000 in
set_option maxRecDepth 100000 in
theorem bf.calls (k : Nat) (a0 : ByteArray) (r : Bool) (w : World) (h : bf.f k a0 = some r) :
  Calls Tryz.prog 72 #[.string a0] w fun e w'=>e = .returned (.bool r) ∧ Drawn0 w w':=by
 have H : (if a0.toList = ([] : List UInt8) then (bf.j0 k a0 true) else (if (a0.size : Int) > 63 then (bf.j0 k a0 true) else (if 0 < (a0.size : Int) then ((dN.f (bt a0 0)).bind fun BH=>(bf.j0 k a0 BH)) else (none)))) = some r:=h
 clear h
 have Cg:=Aside0.mk H
 clear H
 go_enter Tryz.func72,Tryz.ntmps72
 go_upto_region 1 with (fail)
 go_cut [15] (fun v15 wc=>∃ (kq : Nat) (BJ : Bool),v15 = .bool BJ ∧ Aside0 (bf.j0 kq a0 BJ = some r) ∧ Aside0 (kq ≤ k) ∧ Drawn0 w wc)
 case first =>
  have H:=Cg.out
  clear Cg
  by_cases c3 : a0.toList = ([] : List UInt8)
  ·rw [if_pos c3] at H
   have c3b0 : (a0.toList == ([] : List UInt8)) = true:=beq_iff_eq.mpr c3
   have c3b1 : (a0.toList != ([] : List UInt8)) = false:=bne_eq_false_iff_eq.mpr c3
   clear c3
   (first|rw [c3b0]|(simp only [bJ,bK];rw [c3b0])|skip)
   have H':=Aside0.mk H
   clear H
   go_wp2
   go_meet
   case rel=>exact ⟨_,(true),(by first|rfl|(simp;done)|(simp [*];done)|exact congrArg Value.bool (dI _)|exact congrArg Value.bool (dI _).symm),H',⟨by first|omega|exact Nat.le_refl _⟩,by repeat (first|exact Drawn0.refl _|apply Drawn0.step)⟩
  ·rw [if_neg c3] at H
   have c3b0 : (a0.toList == ([] : List UInt8)) = false:=beq_eq_false_iff_ne.mpr c3
   have c3b1 : (a0.toList != ([] : List UInt8)) = true:=bne_iff_ne.mpr c3
   (first|rw [c3b0]|(simp only [bJ,bK];rw [c3b0])|skip)
   by_cases c4 : (a0.size : Int) > 63
   ·rw [if_pos c4] at H
    have c4b0 : decide (63 < (a0.size : Int)) = true:=decide_eq_true c4
    have c4b1 : decide (63 < a0.size) = true:=decide_eq_true (by omega)
    clear c4
    have H':=Aside0.mk H
    clear H
    go_wp2
    go_meet
    case rel=>exact ⟨_,(true),(by first|rfl|(simp;done)|(simp [*];done)|exact congrArg Value.bool (dI _)|exact congrArg Value.bool (dI _).symm),H',⟨by first|omega|exact Nat.le_refl _⟩,by repeat (first|exact Drawn0.refl _|apply Drawn0.step)⟩
   ·rw [if_neg c4] at H
    have c4b0 : decide (63 < (a0.size : Int)) = false:=decide_eq_false c4
    have c4b1 : decide (63 < a0.size) = false:=decide_eq_false (by omega)
    clear c4
    by_cases c5 : 0 < (a0.size : Int)
    ·rw [if_pos c5] at H
     have c5b0 : decide (0 < (a0.size : Int)) = true:=decide_eq_true c5
     have c5b1 : decide (0 < a0.size) = true:=decide_eq_true (by omega)
     clear c5
     replace H:=Option.bind_eq_some_iff.mp H
     obtain ⟨BH,CW,H⟩:=H
     replace H : (bf.j0 k a0 BH) = some r:=H
     have A7:=Aside0.mk CW
     clear CW
     have H':=Aside0.mk H
     clear H
     have p6 : 0 ≤ (0 : Int):=(by omega)
     have q6 : 0 < a0.size:=(by have : (0 : Int) < (a0.size : Int):=of_decide_eq_true (by first|(with_reducible assumption)|assumption);omega)
     have hx6 : ∀ h : 0 < a0.size,((a0[0]'h).toNat : Int) = bt a0 0:=eU a0 0
     clear p6
     have Ck : (0 < (a0.size : Int)) = True:=eq_true (of_decide_eq_true (by first|(with_reducible assumption)|assumption))
     replace q6:=eq_true q6
     go_wp2_with (first|(go_at_call 93;(with_reducible refine (dN.calls (bt a0 0) BH _ A7.out).mono ?_);rintro e w' ⟨rfl,⟨nd,rfl⟩⟩))
     go_meet
     case rel=>exact ⟨_,(BH),(by first|rfl|(simp;done)|(simp [*];done)|exact congrArg Value.bool (dI _)|exact congrArg Value.bool (dI _).symm),H',⟨by first|omega|exact Nat.le_refl _⟩,by repeat (first|exact Drawn0.refl _|apply Drawn0.step)⟩
    ·rw [if_neg c5] at H
     exact absurd H (by simp)
 case rest =>
  clear Cg
  try clear p2
  try clear c3
  try clear c3b0
  try clear c3b1
  try clear c4
  try clear c4b0
  try clear c4b1
  try clear c5
  try clear c5b0
  try clear c5b1
  try clear p6
  try clear q6
  try clear hx6
  try clear Ck
  try clear c7
  try clear p6
  try clear q6
  obtain ⟨kq,BJ,rfl,HA,BF,⟨CX,rfl⟩⟩:=hcut
  cases kq with
  | zero=>exact absurd HA.out (by simp [bf.j0])
  | succ Ch =>
   have H:=HA.out
   clear HA
   simp only [bf.j0] at H
   by_cases c8 : BJ = true
   ·subst c8
    have H1 : (some false) = some r:=by rw [if_pos rfl] at H;exact H
    clear H
    have H:=H1
    clear H1
    obtain rfl:=Option.some.inj H
    go_wp2
    go_ret
    exact ⟨by first|rfl|(simp;done)|(simp [*];done),by repeat (first|exact Drawn0.refl _|apply Drawn0.step)⟩
   ·replace c8:=Bool.eq_false_iff.mpr c8
    subst c8
    have H1 : (bf.l0 Ch a0 (a0.size : Int) 0) = some r:=by rw [if_neg (show ¬ (false = true) by decide)] at H;exact H
    clear H
    have H:=H1
    clear H1
    have H':=Aside0.mk H
    clear H
    go_wp2
    go_loopg [18] Ch (fun kq v18 w'=>∃ (Bu : Int),v18 = .int .i64 Bu ∧ Aside0 (bf.l0 kq a0 (a0.size : Int) Bu = some r) ∧ Aside0 (kq ≤ Ch) ∧ Drawn0 w w')
    case atStart=>exact ⟨(0),(by first|rfl|(simp;done)|(simp [*];done)|exact congrArg Value.bool (dI _)|exact congrArg Value.bool (dI _).symm),H',⟨Nat.le_refl _⟩,by repeat (first|exact Drawn0.refl _|apply Drawn0.step)⟩
    case round =>
     clear H'
     try clear c1
     try clear p2
     try clear c3
     try clear c3b0
     try clear c3b1
     try clear c4
     try clear c4b0
     try clear c4b1
     try clear c5
     try clear c5b0
     try clear c5b1
     try clear p6
     try clear q6
     try clear hx6
     try clear Ck
     try clear c7
     try clear c8
     try clear p2
     try clear p6
     try clear q6
     obtain ⟨Bu,rfl,HA,BG,⟨m2,rfl⟩⟩:=hrel
     cases gk with
     | zero=>exact absurd HA.out (by simp [bf.l0])
     | succ k2 =>
      have H:=HA.out
      clear HA
      simp only [bf.l0] at H
      by_cases c9 : Bu < (a0.size : Int)
      ·rw [if_pos c9] at H
       have c9b0 : decide (Bu < (a0.size : Int)) = true:=decide_eq_true c9
       clear c9
       by_cases c10 : 0 ≤ Bu
       ·rw [if_pos c10] at H
        have c10b0 : decide (0 ≤ Bu) = true:=decide_eq_true c10
        clear c10
        by_cases c11 : Bu < (a0.size : Int)
        ·rw [if_pos c11] at H
         have c11b0 : decide (Bu < (a0.size : Int)) = true:=decide_eq_true c11
         clear c11
         replace H:=Option.bind_eq_some_iff.mp H
         obtain ⟨BU,Cw,H⟩:=H
         replace H : (if BU = true then (bf.l0 k2 a0 (a0.size : Int) (wrap64 (Bu + 1))) else ((fT.f (bt a0 Bu)).bind fun Bz=>(if Bz = true then (bf.l0 k2 a0 (a0.size : Int) (wrap64 (Bu + 1))) else ((dN.f (bt a0 Bu)).bind fun Bw=>(if Bw = true then (bf.l0 k2 a0 (a0.size : Int) (wrap64 (Bu + 1))) else (if (bt a0 Bu) = 95 then (bf.l0 k2 a0 (a0.size : Int) (wrap64 (Bu + 1))) else (some false))))))) = some r:=H
         have Cz:=Aside0.mk Cw
         clear Cw
         by_cases c14 : BU = true
         ·subst c14
          have H1 : (bf.l0 k2 a0 (a0.size : Int) (wrap64 (Bu + 1))) = some r:=by rw [if_pos rfl] at H;exact H
          clear H
          have H:=H1
          clear H1
          have H':=Aside0.mk H
          clear H
          have BK : 0 ≤ (Bu : Int):=of_decide_eq_true (by first|(with_reducible assumption)|assumption)
          have BL : Bu < (a0.size : Int):=of_decide_eq_true (by first|(with_reducible assumption)|assumption)
          have BZ:=eU a0 Bu
          replace BK:=eq_true BK
          replace BL:=eq_true BL
          go_wp2_with (first|((with_reducible refine bO (f:=92) rfl ?_);refine dZ (some 24) rfl rfl Tryz.func92 (by kernel_rfl) rfl #[.int .u8 (bt a0 Bu)] rfl (by (try simp only [List.map_toArray,List.map_cons,List.map_nil]);first|done|rfl|(simp only [List.length_drop,List.length_take];rfl)|(simp (disch:=first|omega|(simp at *;omega)) only [eu,dD,fA];rfl)) ?_;(with_reducible refine (eP.calls (bt a0 Bu) true _ Cz.out).mono ?_);rintro e w' ⟨rfl,⟨nd,rfl⟩⟩;refine ⟨_,rfl,?_⟩))
          go_roundg k2
          case measure=>have:=BF.out;have:=BG.out;omega
          case rel=>exact ⟨(wrap64 (Bu + 1)),(by first|rfl|(simp;done)|(simp [*];done)|exact congrArg Value.bool (dI _)|exact congrArg Value.bool (dI _).symm),H',⟨by have:=BF.out;have:=BG.out;omega⟩,by repeat (first|exact Drawn0.refl _|apply Drawn0.step)⟩
         ·replace c14:=Bool.eq_false_iff.mpr c14
          subst c14
          have H1 : ((fT.f (bt a0 Bu)).bind fun Bz=>(if Bz = true then (bf.l0 k2 a0 (a0.size : Int) (wrap64 (Bu + 1))) else ((dN.f (bt a0 Bu)).bind fun Bw=>(if Bw = true then (bf.l0 k2 a0 (a0.size : Int) (wrap64 (Bu + 1))) else (if (bt a0 Bu) = 95 then (bf.l0 k2 a0 (a0.size : Int) (wrap64 (Bu + 1))) else (some false)))))) = some r:=by rw [if_neg (show ¬ (false = true) by decide)] at H;exact H
          clear H
          have H:=H1
          clear H1
          replace H:=Option.bind_eq_some_iff.mp H
          obtain ⟨Bz,CB,H⟩:=H
          replace H : (if Bz = true then (bf.l0 k2 a0 (a0.size : Int) (wrap64 (Bu + 1))) else ((dN.f (bt a0 Bu)).bind fun Bw=>(if Bw = true then (bf.l0 k2 a0 (a0.size : Int) (wrap64 (Bu + 1))) else (if (bt a0 Bu) = 95 then (bf.l0 k2 a0 (a0.size : Int) (wrap64 (Bu + 1))) else (some false))))) = some r:=H
          have CP:=Aside0.mk CB
          clear CB
          by_cases c17 : Bz = true
          ·subst c17
           have H1 : (bf.l0 k2 a0 (a0.size : Int) (wrap64 (Bu + 1))) = some r:=by rw [if_pos rfl] at H;exact H
           clear H
           have H:=H1
           clear H1
           have H':=Aside0.mk H
           clear H
           have BK : 0 ≤ (Bu : Int):=of_decide_eq_true (by first|(with_reducible assumption)|assumption)
           have BL : Bu < (a0.size : Int):=of_decide_eq_true (by first|(with_reducible assumption)|assumption)
           have BZ:=eU a0 Bu
           replace BK:=eq_true BK
           replace BL:=eq_true BL
           go_wp2_with (first|((with_reducible refine bO (f:=92) rfl ?_);refine dZ (some 24) rfl rfl Tryz.func92 (by kernel_rfl) rfl #[.int .u8 (bt a0 Bu)] rfl (by (try simp only [List.map_toArray,List.map_cons,List.map_nil]);first|done|rfl|(simp only [List.length_drop,List.length_take];rfl)|(simp (disch:=first|omega|(simp at *;omega)) only [eu,dD,fA];rfl)) ?_;(with_reducible refine (eP.calls (bt a0 Bu) false _ Cz.out).mono ?_);rintro e w' ⟨rfl,⟨nd,rfl⟩⟩;refine ⟨_,rfl,?_⟩;have BO : 0 ≤ (Bu : Int):=of_decide_eq_true (by first|(with_reducible assumption)|assumption);have BP : Bu < (a0.size : Int):=of_decide_eq_true (by first|(with_reducible assumption)|assumption);have Ci:=eU a0 Bu;replace BO:=eq_true BO;replace BP:=eq_true BP)|(go_at_call 95;(with_reducible refine (fT.calls (bt a0 Bu) true _ CP.out).mono ?_);rintro e w' ⟨rfl,⟨nd,rfl⟩⟩))
           go_roundg k2
           case measure=>have:=BF.out;have:=BG.out;omega
           case rel=>exact ⟨(wrap64 (Bu + 1)),(by first|rfl|(simp;done)|(simp [*];done)|exact congrArg Value.bool (dI _)|exact congrArg Value.bool (dI _).symm),H',⟨by have:=BF.out;have:=BG.out;omega⟩,by repeat (first|exact Drawn0.refl _|apply Drawn0.step)⟩
          ·replace c17:=Bool.eq_false_iff.mpr c17
           subst c17
           have H1 : ((dN.f (bt a0 Bu)).bind fun Bw=>(if Bw = true then (bf.l0 k2 a0 (a0.size : Int) (wrap64 (Bu + 1))) else (if (bt a0 Bu) = 95 then (bf.l0 k2 a0 (a0.size : Int) (wrap64 (Bu + 1))) else (some false)))) = some r:=by rw [if_neg (show ¬ (false = true) by decide)] at H;exact H
           clear H
           have H:=H1
           clear H1
           replace H:=Option.bind_eq_some_iff.mp H
           obtain ⟨Bw,CF,H⟩:=H
           replace H : (if Bw = true then (bf.l0 k2 a0 (a0.size : Int) (wrap64 (Bu + 1))) else (if (bt a0 Bu) = 95 then (bf.l0 k2 a0 (a0.size : Int) (wrap64 (Bu + 1))) else (some false))) = some r:=H
           have CU:=Aside0.mk CF
           clear CF
           by_cases c20 : Bw = true
           ·subst c20
            have H1 : (bf.l0 k2 a0 (a0.size : Int) (wrap64 (Bu + 1))) = some r:=by rw [if_pos rfl] at H;exact H
            clear H
            have H:=H1
            clear H1
            have H':=Aside0.mk H
            clear H
            have BK : 0 ≤ (Bu : Int):=of_decide_eq_true (by first|(with_reducible assumption)|assumption)
            have BL : Bu < (a0.size : Int):=of_decide_eq_true (by first|(with_reducible assumption)|assumption)
            have BZ:=eU a0 Bu
            replace BK:=eq_true BK
            replace BL:=eq_true BL
            go_wp2_with (first|((with_reducible refine bO (f:=92) rfl ?_);refine dZ (some 24) rfl rfl Tryz.func92 (by kernel_rfl) rfl #[.int .u8 (bt a0 Bu)] rfl (by (try simp only [List.map_toArray,List.map_cons,List.map_nil]);first|done|rfl|(simp only [List.length_drop,List.length_take];rfl)|(simp (disch:=first|omega|(simp at *;omega)) only [eu,dD,fA];rfl)) ?_;(with_reducible refine (eP.calls (bt a0 Bu) false _ Cz.out).mono ?_);rintro e w' ⟨rfl,⟨nd,rfl⟩⟩;refine ⟨_,rfl,?_⟩;have BO : 0 ≤ (Bu : Int):=of_decide_eq_true (by first|(with_reducible assumption)|assumption);have BP : Bu < (a0.size : Int):=of_decide_eq_true (by first|(with_reducible assumption)|assumption);have Ci:=eU a0 Bu;replace BO:=eq_true BO;replace BP:=eq_true BP)|(go_at_call 95;(with_reducible refine (fT.calls (bt a0 Bu) false _ CP.out).mono ?_);rintro e w' ⟨rfl,⟨nd,rfl⟩⟩;have Cc : 0 ≤ (Bu : Int):=of_decide_eq_true (by first|(with_reducible assumption)|assumption);have Ce : Bu < (a0.size : Int):=of_decide_eq_true (by first|(with_reducible assumption)|assumption);have CG:=eU a0 Bu;replace Cc:=eq_true Cc;replace Ce:=eq_true Ce)|(go_at_call 93;(with_reducible refine (dN.calls (bt a0 Bu) true _ CU.out).mono ?_);rintro e w' ⟨rfl,⟨nd,rfl⟩⟩))
            go_roundg k2
            case measure=>have:=BF.out;have:=BG.out;omega
            case rel=>exact ⟨(wrap64 (Bu + 1)),(by first|rfl|(simp;done)|(simp [*];done)|exact congrArg Value.bool (dI _)|exact congrArg Value.bool (dI _).symm),H',⟨by have:=BF.out;have:=BG.out;omega⟩,by repeat (first|exact Drawn0.refl _|apply Drawn0.step)⟩
           ·replace c20:=Bool.eq_false_iff.mpr c20
            subst c20
            have H1 : (if (bt a0 Bu) = 95 then (bf.l0 k2 a0 (a0.size : Int) (wrap64 (Bu + 1))) else (some false)) = some r:=by rw [if_neg (show ¬ (false = true) by decide)] at H;exact H
            clear H
            have H:=H1
            clear H1
            by_cases Cj : (bt a0 Bu) = 95
            ·rw [if_pos Cj] at H
             have c22b0 : ((bt a0 Bu) == 95) = true:=beq_iff_eq.mpr Cj
             have c22b1 : ((bt a0 Bu) != 95) = false:=bne_eq_false_iff_eq.mpr Cj
             clear Cj
             have H':=Aside0.mk H
             clear H
             have BK : 0 ≤ (Bu : Int):=of_decide_eq_true (by first|(with_reducible assumption)|assumption)
             have BL : Bu < (a0.size : Int):=of_decide_eq_true (by first|(with_reducible assumption)|assumption)
             have BZ:=eU a0 Bu
             replace BK:=eq_true BK
             replace BL:=eq_true BL
             go_wp2_with (first|((with_reducible refine bO (f:=92) rfl ?_);refine dZ (some 24) rfl rfl Tryz.func92 (by kernel_rfl) rfl #[.int .u8 (bt a0 Bu)] rfl (by (try simp only [List.map_toArray,List.map_cons,List.map_nil]);first|done|rfl|(simp only [List.length_drop,List.length_take];rfl)|(simp (disch:=first|omega|(simp at *;omega)) only [eu,dD,fA];rfl)) ?_;(with_reducible refine (eP.calls (bt a0 Bu) false _ Cz.out).mono ?_);rintro e w' ⟨rfl,⟨nd,rfl⟩⟩;refine ⟨_,rfl,?_⟩;have BO : 0 ≤ (Bu : Int):=of_decide_eq_true (by first|(with_reducible assumption)|assumption);have BP : Bu < (a0.size : Int):=of_decide_eq_true (by first|(with_reducible assumption)|assumption);have Ci:=eU a0 Bu;replace BO:=eq_true BO;replace BP:=eq_true BP)|(go_at_call 95;(with_reducible refine (fT.calls (bt a0 Bu) false _ CP.out).mono ?_);rintro e w' ⟨rfl,⟨nd,rfl⟩⟩;have Cc : 0 ≤ (Bu : Int):=of_decide_eq_true (by first|(with_reducible assumption)|assumption);have Ce : Bu < (a0.size : Int):=of_decide_eq_true (by first|(with_reducible assumption)|assumption);have CG:=eU a0 Bu;replace Cc:=eq_true Cc;replace Ce:=eq_true Ce)|(go_at_call 93;(with_reducible refine (dN.calls (bt a0 Bu) false _ CU.out).mono ?_);rintro e w' ⟨rfl,⟨nd,rfl⟩⟩;have CJ : 0 ≤ (Bu : Int):=of_decide_eq_true (by first|(with_reducible assumption)|assumption);have CK : Bu < (a0.size : Int):=of_decide_eq_true (by first|(with_reducible assumption)|assumption);have CV:=eU a0 Bu;replace CJ:=eq_true CJ;replace CK:=eq_true CK))
             go_roundg k2
             case measure=>have:=BF.out;have:=BG.out;omega
             case rel=>exact ⟨(wrap64 (Bu + 1)),(by first|rfl|(simp;done)|(simp [*];done)|exact congrArg Value.bool (dI _)|exact congrArg Value.bool (dI _).symm),H',⟨by have:=BF.out;have:=BG.out;omega⟩,by repeat (first|exact Drawn0.refl _|apply Drawn0.step)⟩
            ·rw [if_neg Cj] at H
             have c22b0 : ((bt a0 Bu) == 95) = false:=beq_eq_false_iff_ne.mpr Cj
             have c22b1 : ((bt a0 Bu) != 95) = true:=bne_iff_ne.mpr Cj
             obtain rfl:=Option.some.inj H
             have BK : 0 ≤ (Bu : Int):=of_decide_eq_true (by first|(with_reducible assumption)|assumption)
             have BL : Bu < (a0.size : Int):=of_decide_eq_true (by first|(with_reducible assumption)|assumption)
             have BZ:=eU a0 Bu
             replace BK:=eq_true BK
             replace BL:=eq_true BL
             go_wp2_with (first|((with_reducible refine bO (f:=92) rfl ?_);refine dZ (some 24) rfl rfl Tryz.func92 (by kernel_rfl) rfl #[.int .u8 (bt a0 Bu)] rfl (by (try simp only [List.map_toArray,List.map_cons,List.map_nil]);first|done|rfl|(simp only [List.length_drop,List.length_take];rfl)|(simp (disch:=first|omega|(simp at *;omega)) only [eu,dD,fA];rfl)) ?_;(with_reducible refine (eP.calls (bt a0 Bu) false _ Cz.out).mono ?_);rintro e w' ⟨rfl,⟨nd,rfl⟩⟩;refine ⟨_,rfl,?_⟩;have BO : 0 ≤ (Bu : Int):=of_decide_eq_true (by first|(with_reducible assumption)|assumption);have BP : Bu < (a0.size : Int):=of_decide_eq_true (by first|(with_reducible assumption)|assumption);have Ci:=eU a0 Bu;replace BO:=eq_true BO;replace BP:=eq_true BP)|(go_at_call 95;(with_reducible refine (fT.calls (bt a0 Bu) false _ CP.out).mono ?_);rintro e w' ⟨rfl,⟨nd,rfl⟩⟩;have Cc : 0 ≤ (Bu : Int):=of_decide_eq_true (by first|(with_reducible assumption)|assumption);have Ce : Bu < (a0.size : Int):=of_decide_eq_true (by first|(with_reducible assumption)|assumption);have CG:=eU a0 Bu;replace Cc:=eq_true Cc;replace Ce:=eq_true Ce)|(go_at_call 93;(with_reducible refine (dN.calls (bt a0 Bu) false _ CU.out).mono ?_);rintro e w' ⟨rfl,⟨nd,rfl⟩⟩;have CJ : 0 ≤ (Bu : Int):=of_decide_eq_true (by first|(with_reducible assumption)|assumption);have CK : Bu < (a0.size : Int):=of_decide_eq_true (by first|(with_reducible assumption)|assumption);have CV:=eU a0 Bu;replace CJ:=eq_true CJ;replace CK:=eq_true CK))
             go_ret
             exact ⟨by first|rfl|(simp;done)|(simp [*];done),by repeat (first|exact Drawn0.refl _|apply Drawn0.step)⟩
        ·rw [if_neg c11] at H
         exact absurd H (by simp)
       ·rw [if_neg c10] at H
        exact absurd H (by simp)
      ·rw [if_neg c9] at H
       have c9b0 : decide (Bu < (a0.size : Int)) = false:=decide_eq_false c9
       clear c9
       obtain rfl:=Option.some.inj H
       go_wp2
       go_ret
       exact ⟨by first|rfl|(simp;done)|(simp [*];done),by repeat (first|exact Drawn0.refl _|apply Drawn0.step)⟩
end Go.Proofs.YtpncpefppifgdaaGreatDoor.GUt
