/- Written by this session's own program (wip/gen.py) out of the translation: plain Lean functions of the Go functions, and proofs that the calls come to their answers. No conditions beside those in the statements. -/
import Derived.Test.YtpncpefppifgdaaGreatDoorGUtx0
import Derived.Test.YtpncpefppifgdaaGreatDoorGUtx3
namespace Go.Proofs.YtpncpefppifgdaaGreatDoor.GUt
open Go.RowKit Go.Proofs.YtpncpefppifgdaaGreatDoorW.PrintWords Go.Proofs.YtpncpefppifgdaaGreatDoorW.PrintLast Go.Proofs.YtpncpefppifgdaaGreatDoorW.PrintMore
attribute [local go_sem] fH fI gF gG eZ fq fJ fK
set_option linter.unusedVariables false
set_option linter.unusedSimpArgs false
mutual
def aY.j0 : Nat → ByteArray → Bool → Option (Bool)
 | 0,_,_=>none
 | k + 1,x0,Cu=>if Cu = true then (some false) else (aY.l0 k x0 (x0.size : Int) 0)
def aY.l0 : Nat → ByteArray → Int → Int → Option (Bool)
 | 0,_,_,_=>none
 | k + 1,x0,Ca,x18=>if x18 < Ca then (if 0 ≤ x18 then (if x18 < (x0.size : Int) then ((eD.f (bt x0 x18)).bind fun BL=>(if BL = true then (aY.l0 k x0 Ca (wrap64 (x18 + 1))) else ((fT.f (bt x0 x18)).bind fun BD=>(if BD = true then (aY.l0 k x0 Ca (wrap64 (x18 + 1))) else ((dH.f (bt x0 x18)).bind fun Bz=>(if Bz = true then (aY.l0 k x0 Ca (wrap64 (x18 + 1))) else (if (bt x0 x18) = 95 then (aY.l0 k x0 Ca (wrap64 (x18 + 1))) else (some false)))))))) else (none)) else (none)) else (some true)
end
def aY.f (k : Nat) (a0 : ByteArray) : Option (Bool):=if a0.toList = ([] : List UInt8) then (aY.j0 k a0 true) else (if (a0.size : Int) > 63 then (aY.j0 k a0 true) else (if 0 < (a0.size : Int) then ((dH.f (bt a0 0)).bind fun BF=>(aY.j0 k a0 BF)) else (none)))
theorem aY.eB : ∀ k,(∀ y0 y1,LeO (aY.j0 k y0 y1) (aY.j0 (k + 1) y0 y1)) ∧ (∀ y0 y1 y2,LeO (aY.l0 k y0 y1 y2) (aY.l0 (k + 1) y0 y1 y2))
 | 0=>⟨fun _ _ r h=>by simp [aY.j0] at h,fun _ _ _ r h=>by simp [aY.l0] at h⟩
 | k + 1=>by
  obtain ⟨BS,ih1⟩:=aY.eB k
  refine ⟨?_,?_⟩
  ·intro y0 y1
   unfold aY.j0
   repeat' first
   | (with_reducible exact BS _ _)
   | (with_reducible exact ih1 _ _ _)
   | (with_reducible exact LeO.refl _)
   | (with_reducible exact LeO.none _)
   | (with_reducible refine LeO.ite ?_ ?_)
   | (with_reducible refine LeO.bind ?_ (fun _=>?_))
   | exact BS _ _
   | exact ih1 _ _ _
   | exact LeO.none _
   | refine LeO.ite ?_ ?_
   | refine LeO.bind ?_ (fun _=>?_)
  ·intro y0 y1 y2
   unfold aY.l0
   repeat' first
   | (with_reducible exact BS _ _)
   | (with_reducible exact ih1 _ _ _)
   | (with_reducible exact LeO.refl _)
   | (with_reducible exact LeO.none _)
   | (with_reducible refine LeO.ite ?_ ?_)
   | (with_reducible refine LeO.bind ?_ (fun _=>?_))
   | exact BS _ _
   | exact ih1 _ _ _
   | exact LeO.none _
   | refine LeO.ite ?_ ?_
   | refine LeO.bind ?_ (fun _=>?_)
theorem aY.mono : ∀ a0 k,LeO (aY.f k a0) (aY.f (k + 1) a0):=by
 intro a0 k
 obtain ⟨BS,ih1⟩:=aY.eB k
 unfold aY.f
 repeat' first
   | (with_reducible exact BS _ _)
   | (with_reducible exact ih1 _ _ _)
   | (with_reducible exact LeO.refl _)
   | (with_reducible exact LeO.none _)
   | (with_reducible refine LeO.ite ?_ ?_)
   | (with_reducible refine LeO.bind ?_ (fun _=>?_))
   | exact BS _ _
   | exact ih1 _ _ _
   | exact LeO.none _
   | refine LeO.ite ?_ ?_
   | refine LeO.bind ?_ (fun _=>?_)
set_option maxHeartbeats 8000000 in
set_option maxRecDepth 100000 in
theorem aY.calls (k : Nat) (a0 : ByteArray) (r : Bool) (w : World) (h : aY.f k a0 = some r) :
  Calls Tryz.prog 72 #[.string a0] w fun e w'=>e = .returned (.bool r) ∧ Drawn0 w w':=by
 have H : (if a0.toList = ([] : List UInt8) then (aY.j0 k a0 true) else (if (a0.size : Int) > 63 then (aY.j0 k a0 true) else (if 0 < (a0.size : Int) then ((dH.f (bt a0 0)).bind fun BF=>(aY.j0 k a0 BF)) else (none)))) = some r:=h
 clear h
 have Cm:=Aside0.mk H
 clear H
 go_enter Tryz.func72,Tryz.ntmps72
 go_upto_region 1 with (fail)
 go_cut [15] (fun v15 wc=>∃ (kq : Nat) (BG : Bool),v15 = .bool BG ∧ Aside0 (aY.j0 kq a0 BG = some r) ∧ Aside0 (kq ≤ k) ∧ Drawn0 w wc)
 case first =>
  have H:=Cm.out
  clear Cm
  by_cases c3 : a0.toList = ([] : List UInt8)
  ·rw [if_pos c3] at H
   have c3b0 : (a0.toList == ([] : List UInt8)) = true:=beq_iff_eq.mpr c3
   have c3b1 : (a0.toList != ([] : List UInt8)) = false:=bne_eq_false_iff_eq.mpr c3
   clear c3
   (first|rw [c3b0]|(simp only [bO,bR];rw [c3b0])|skip)
   have H':=Aside0.mk H
   clear H
   go_wp2
   go_meet
   case rel=>exact ⟨_,(true),(by first|rfl|(simp;done)|(simp [*];done)|exact congrArg Value.bool (cZ _)|exact congrArg Value.bool (cZ _).symm),H',⟨by first|omega|exact Nat.le_refl _⟩,by repeat (first|exact Drawn0.refl _|apply Drawn0.step)⟩
  ·rw [if_neg c3] at H
   have c3b0 : (a0.toList == ([] : List UInt8)) = false:=beq_eq_false_iff_ne.mpr c3
   have c3b1 : (a0.toList != ([] : List UInt8)) = true:=bne_iff_ne.mpr c3
   (first|rw [c3b0]|(simp only [bO,bR];rw [c3b0])|skip)
   by_cases c4 : (a0.size : Int) > 63
   ·rw [if_pos c4] at H
    have c4b0 : decide (63 < (a0.size : Int)) = true:=decide_eq_true c4
    have c4b1 : decide (63 < a0.size) = true:=decide_eq_true (by omega)
    clear c4
    have H':=Aside0.mk H
    clear H
    go_wp2
    go_meet
    case rel=>exact ⟨_,(true),(by first|rfl|(simp;done)|(simp [*];done)|exact congrArg Value.bool (cZ _)|exact congrArg Value.bool (cZ _).symm),H',⟨by first|omega|exact Nat.le_refl _⟩,by repeat (first|exact Drawn0.refl _|apply Drawn0.step)⟩
   ·rw [if_neg c4] at H
    have c4b0 : decide (63 < (a0.size : Int)) = false:=decide_eq_false c4
    have c4b1 : decide (63 < a0.size) = false:=decide_eq_false (by omega)
    clear c4
    by_cases c5 : 0 < (a0.size : Int)
    ·rw [if_pos c5] at H
     have c5b0 : decide (0 < (a0.size : Int)) = true:=decide_eq_true c5
     have c5b1 : decide (0 < a0.size) = true:=decide_eq_true (by omega)
     clear c5
     replace H:=Option.bind_eq_some_iff.mp H
     obtain ⟨BF,Cr,H⟩:=H
     replace H : (aY.j0 k a0 BF) = some r:=H
     have A7:=Aside0.mk Cr
     clear Cr
     have H':=Aside0.mk H
     clear H
     have p6 : 0 ≤ (0 : Int):=(by omega)
     have q6 : 0 < a0.size:=(by have : (0 : Int) < (a0.size : Int):=of_decide_eq_true (by first|(with_reducible assumption)|assumption);omega)
     have hx6 : ∀ h : 0 < a0.size,((a0[0]'h).toNat : Int) = bt a0 0:=eP a0 0
     clear p6
     have Ct : (0 < (a0.size : Int)) = True:=eq_true (of_decide_eq_true (by first|(with_reducible assumption)|assumption))
     replace q6:=eq_true q6
     go_wp2_with (first|(go_at_call 93;(with_reducible refine (dH.calls (bt a0 0) BF _ A7.out).mono ?_);rintro e w' ⟨rfl,⟨nd,rfl⟩⟩))
     go_meet
     case rel=>exact ⟨_,(BF),(by first|rfl|(simp;done)|(simp [*];done)|exact congrArg Value.bool (cZ _)|exact congrArg Value.bool (cZ _).symm),H',⟨by first|omega|exact Nat.le_refl _⟩,by repeat (first|exact Drawn0.refl _|apply Drawn0.step)⟩
    ·rw [if_neg c5] at H
     exact absurd H (by simp)
 case rest =>
  clear Cm
  try clear p2
  try clear c3
  try clear c3b0
  try clear c3b1
  try clear c4
  try clear c4b0
  try clear c4b1
  try clear c5
  try clear c5b0
  try clear c5b1
  try clear p6
  try clear q6
  try clear hx6
  try clear Ct
  try clear c7
  try clear p6
  try clear q6
  obtain ⟨kq,BG,rfl,HA,BO,⟨Cv,rfl⟩⟩:=hcut
  cases kq with
  | zero=>exact absurd HA.out (by simp [aY.j0])
  | succ Cn =>
   have H:=HA.out
   clear HA
   simp only [aY.j0] at H
   by_cases c8 : BG = true
   ·subst c8
    have H1 : (some false) = some r:=by rw [if_pos rfl] at H;exact H
    clear H
    have H:=H1
    clear H1
    obtain rfl:=Option.some.inj H
    go_wp2
    go_ret
    exact ⟨by first|rfl|(simp;done)|(simp [*];done),by repeat (first|exact Drawn0.refl _|apply Drawn0.step)⟩
   ·replace c8:=Bool.eq_false_iff.mpr c8
    subst c8
    have H1 : (aY.l0 Cn a0 (a0.size : Int) 0) = some r:=by rw [if_neg (show ¬ (false = true) by decide)] at H;exact H
    clear H
    have H:=H1
    clear H1
    have H':=Aside0.mk H
    clear H
    go_wp2
    go_loopg [18] Cn (fun kq v18 w'=>∃ (Bw : Int),v18 = .int .i64 Bw ∧ Aside0 (aY.l0 kq a0 (a0.size : Int) Bw = some r) ∧ Aside0 (kq ≤ Cn) ∧ Drawn0 w w')
    case atStart=>exact ⟨(0),(by first|rfl|(simp;done)|(simp [*];done)|exact congrArg Value.bool (cZ _)|exact congrArg Value.bool (cZ _).symm),H',⟨Nat.le_refl _⟩,by repeat (first|exact Drawn0.refl _|apply Drawn0.step)⟩
    case round =>
     clear H'
     try clear c1
     try clear p2
     try clear c3
     try clear c3b0
     try clear c3b1
     try clear c4
     try clear c4b0
     try clear c4b1
     try clear c5
     try clear c5b0
     try clear c5b1
     try clear p6
     try clear q6
     try clear hx6
     try clear Ct
     try clear c7
     try clear c8
     try clear p2
     try clear p6
     try clear q6
     obtain ⟨Bw,rfl,HA,BP,⟨m2,rfl⟩⟩:=hrel
     cases gk with
     | zero=>exact absurd HA.out (by simp [aY.l0])
     | succ k2 =>
      have H:=HA.out
      clear HA
      simp only [aY.l0] at H
      by_cases c9 : Bw < (a0.size : Int)
      ·rw [if_pos c9] at H
       have c9b0 : decide (Bw < (a0.size : Int)) = true:=decide_eq_true c9
       clear c9
       by_cases c10 : 0 ≤ Bw
       ·rw [if_pos c10] at H
        have c10b0 : decide (0 ≤ Bw) = true:=decide_eq_true c10
        clear c10
        by_cases c11 : Bw < (a0.size : Int)
        ·rw [if_pos c11] at H
         have c11b0 : decide (Bw < (a0.size : Int)) = true:=decide_eq_true c11
         clear c11
         replace H:=Option.bind_eq_some_iff.mp H
         obtain ⟨BL,Cb,H⟩:=H
         replace H : (if BL = true then (aY.l0 k2 a0 (a0.size : Int) (wrap64 (Bw + 1))) else ((fT.f (bt a0 Bw)).bind fun BD=>(if BD = true then (aY.l0 k2 a0 (a0.size : Int) (wrap64 (Bw + 1))) else ((dH.f (bt a0 Bw)).bind fun Bz=>(if Bz = true then (aY.l0 k2 a0 (a0.size : Int) (wrap64 (Bw + 1))) else (if (bt a0 Bw) = 95 then (aY.l0 k2 a0 (a0.size : Int) (wrap64 (Bw + 1))) else (some false))))))) = some r:=H
         have Cc:=Aside0.mk Cb
         clear Cb
         by_cases c14 : BL = true
         ·subst c14
          have H1 : (aY.l0 k2 a0 (a0.size : Int) (wrap64 (Bw + 1))) = some r:=by rw [if_pos rfl] at H;exact H
          clear H
          have H:=H1
          clear H1
          have H':=Aside0.mk H
          clear H
          have BH : 0 ≤ (Bw : Int):=of_decide_eq_true (by first|(with_reducible assumption)|assumption)
          have BI : Bw < (a0.size : Int):=of_decide_eq_true (by first|(with_reducible assumption)|assumption)
          have BN:=eP a0 Bw
          replace BH:=eq_true BH
          replace BI:=eq_true BI
          go_wp2_with (first|((with_reducible refine bG (f:=92) rfl ?_);refine dJ (some 24) rfl rfl Tryz.func92 (by kernel_rfl) rfl #[.int .u8 (bt a0 Bw)] rfl (by (try simp only [List.map_toArray,List.map_cons,List.map_nil]);first|done|rfl|(simp only [List.length_drop,List.length_take];rfl)|(simp (disch:=first|omega|(simp at *;omega)) only [dK,bW,eG];rfl)) ?_;(with_reducible refine (eD.calls (bt a0 Bw) true _ Cc.out).mono ?_);rintro e w' ⟨rfl,⟨nd,rfl⟩⟩;refine ⟨_,rfl,?_⟩))
          go_roundg k2
          case measure=>have:=BO.out;have:=BP.out;omega
          case rel=>exact ⟨(wrap64 (Bw + 1)),(by first|rfl|(simp;done)|(simp [*];done)|exact congrArg Value.bool (cZ _)|exact congrArg Value.bool (cZ _).symm),H',⟨by have:=BO.out;have:=BP.out;omega⟩,by repeat (first|exact Drawn0.refl _|apply Drawn0.step)⟩
         ·replace c14:=Bool.eq_false_iff.mpr c14
          subst c14
          have H1 : ((fT.f (bt a0 Bw)).bind fun BD=>(if BD = true then (aY.l0 k2 a0 (a0.size : Int) (wrap64 (Bw + 1))) else ((dH.f (bt a0 Bw)).bind fun Bz=>(if Bz = true then (aY.l0 k2 a0 (a0.size : Int) (wrap64 (Bw + 1))) else (if (bt a0 Bw) = 95 then (aY.l0 k2 a0 (a0.size : Int) (wrap64 (Bw + 1))) else (some false)))))) = some r:=by rw [if_neg (show ¬ (false = true) by decide)] at H;exact H
          clear H
          have H:=H1
          clear H1
          replace H:=Option.bind_eq_some_iff.mp H
          obtain ⟨BD,Ce,H⟩:=H
          replace H : (if BD = true then (aY.l0 k2 a0 (a0.size : Int) (wrap64 (Bw + 1))) else ((dH.f (bt a0 Bw)).bind fun Bz=>(if Bz = true then (aY.l0 k2 a0 (a0.size : Int) (wrap64 (Bw + 1))) else (if (bt a0 Bw) = 95 then (aY.l0 k2 a0 (a0.size : Int) (wrap64 (Bw + 1))) else (some false))))) = some r:=H
          have Ck:=Aside0.mk Ce
          clear Ce
          by_cases c17 : BD = true
          ·subst c17
           have H1 : (aY.l0 k2 a0 (a0.size : Int) (wrap64 (Bw + 1))) = some r:=by rw [if_pos rfl] at H;exact H
           clear H
           have H:=H1
           clear H1
           have H':=Aside0.mk H
           clear H
           have BH : 0 ≤ (Bw : Int):=of_decide_eq_true (by first|(with_reducible assumption)|assumption)
           have BI : Bw < (a0.size : Int):=of_decide_eq_true (by first|(with_reducible assumption)|assumption)
           have BN:=eP a0 Bw
           replace BH:=eq_true BH
           replace BI:=eq_true BI
           go_wp2_with (first|((with_reducible refine bG (f:=92) rfl ?_);refine dJ (some 24) rfl rfl Tryz.func92 (by kernel_rfl) rfl #[.int .u8 (bt a0 Bw)] rfl (by (try simp only [List.map_toArray,List.map_cons,List.map_nil]);first|done|rfl|(simp only [List.length_drop,List.length_take];rfl)|(simp (disch:=first|omega|(simp at *;omega)) only [dK,bW,eG];rfl)) ?_;(with_reducible refine (eD.calls (bt a0 Bw) false _ Cc.out).mono ?_);rintro e w' ⟨rfl,⟨nd,rfl⟩⟩;refine ⟨_,rfl,?_⟩;have BJ : 0 ≤ (Bw : Int):=of_decide_eq_true (by first|(with_reducible assumption)|assumption);have BK : Bw < (a0.size : Int):=of_decide_eq_true (by first|(with_reducible assumption)|assumption);have BU:=eP a0 Bw;replace BJ:=eq_true BJ;replace BK:=eq_true BK)|(go_at_call 95;(with_reducible refine (fT.calls (bt a0 Bw) true _ Ck.out).mono ?_);rintro e w' ⟨rfl,⟨nd,rfl⟩⟩))
           go_roundg k2
           case measure=>have:=BO.out;have:=BP.out;omega
           case rel=>exact ⟨(wrap64 (Bw + 1)),(by first|rfl|(simp;done)|(simp [*];done)|exact congrArg Value.bool (cZ _)|exact congrArg Value.bool (cZ _).symm),H',⟨by have:=BO.out;have:=BP.out;omega⟩,by repeat (first|exact Drawn0.refl _|apply Drawn0.step)⟩
          ·replace c17:=Bool.eq_false_iff.mpr c17
           subst c17
           have H1 : ((dH.f (bt a0 Bw)).bind fun Bz=>(if Bz = true then (aY.l0 k2 a0 (a0.size : Int) (wrap64 (Bw + 1))) else (if (bt a0 Bw) = 95 then (aY.l0 k2 a0 (a0.size : Int) (wrap64 (Bw + 1))) else (some false)))) = some r:=by rw [if_neg (show ¬ (false = true) by decide)] at H;exact H
           clear H
           have H:=H1
           clear H1
           replace H:=Option.bind_eq_some_iff.mp H
           obtain ⟨Bz,Cg,H⟩:=H
           replace H : (if Bz = true then (aY.l0 k2 a0 (a0.size : Int) (wrap64 (Bw + 1))) else (if (bt a0 Bw) = 95 then (aY.l0 k2 a0 (a0.size : Int) (wrap64 (Bw + 1))) else (some false))) = some r:=H
           have Co:=Aside0.mk Cg
           clear Cg
           by_cases c20 : Bz = true
           ·subst c20
            have H1 : (aY.l0 k2 a0 (a0.size : Int) (wrap64 (Bw + 1))) = some r:=by rw [if_pos rfl] at H;exact H
            clear H
            have H:=H1
            clear H1
            have H':=Aside0.mk H
            clear H
            have BH : 0 ≤ (Bw : Int):=of_decide_eq_true (by first|(with_reducible assumption)|assumption)
            have BI : Bw < (a0.size : Int):=of_decide_eq_true (by first|(with_reducible assumption)|assumption)
            have BN:=eP a0 Bw
            replace BH:=eq_true BH
            replace BI:=eq_true BI
            go_wp2_with (first|((with_reducible refine bG (f:=92) rfl ?_);refine dJ (some 24) rfl rfl Tryz.func92 (by kernel_rfl) rfl #[.int .u8 (bt a0 Bw)] rfl (by (try simp only [List.map_toArray,List.map_cons,List.map_nil]);first|done|rfl|(simp only [List.length_drop,List.length_take];rfl)|(simp (disch:=first|omega|(simp at *;omega)) only [dK,bW,eG];rfl)) ?_;(with_reducible refine (eD.calls (bt a0 Bw) false _ Cc.out).mono ?_);rintro e w' ⟨rfl,⟨nd,rfl⟩⟩;refine ⟨_,rfl,?_⟩;have BJ : 0 ≤ (Bw : Int):=of_decide_eq_true (by first|(with_reducible assumption)|assumption);have BK : Bw < (a0.size : Int):=of_decide_eq_true (by first|(with_reducible assumption)|assumption);have BU:=eP a0 Bw;replace BJ:=eq_true BJ;replace BK:=eq_true BK)|(go_at_call 95;(with_reducible refine (fT.calls (bt a0 Bw) false _ Ck.out).mono ?_);rintro e w' ⟨rfl,⟨nd,rfl⟩⟩;have BQ : 0 ≤ (Bw : Int):=of_decide_eq_true (by first|(with_reducible assumption)|assumption);have BR : Bw < (a0.size : Int):=of_decide_eq_true (by first|(with_reducible assumption)|assumption);have Ch:=eP a0 Bw;replace BQ:=eq_true BQ;replace BR:=eq_true BR)|(go_at_call 93;(with_reducible refine (dH.calls (bt a0 Bw) true _ Co.out).mono ?_);rintro e w' ⟨rfl,⟨nd,rfl⟩⟩))
            go_roundg k2
            case measure=>have:=BO.out;have:=BP.out;omega
            case rel=>exact ⟨(wrap64 (Bw + 1)),(by first|rfl|(simp;done)|(simp [*];done)|exact congrArg Value.bool (cZ _)|exact congrArg Value.bool (cZ _).symm),H',⟨by have:=BO.out;have:=BP.out;omega⟩,by repeat (first|exact Drawn0.refl _|apply Drawn0.step)⟩
           ·replace c20:=Bool.eq_false_iff.mpr c20
            subst c20
            have H1 : (if (bt a0 Bw) = 95 then (aY.l0 k2 a0 (a0.size : Int) (wrap64 (Bw + 1))) else (some false)) = some r:=by rw [if_neg (show ¬ (false = true) by decide)] at H;exact H
            clear H
            have H:=H1
            clear H1
            by_cases BZ : (bt a0 Bw) = 95
            ·rw [if_pos BZ] at H
             have c22b0 : ((bt a0 Bw) == 95) = true:=beq_iff_eq.mpr BZ
             have c22b1 : ((bt a0 Bw) != 95) = false:=bne_eq_false_iff_eq.mpr BZ
             clear BZ
             have H':=Aside0.mk H
             clear H
             have BH : 0 ≤ (Bw : Int):=of_decide_eq_true (by first|(with_reducible assumption)|assumption)
             have BI : Bw < (a0.size : Int):=of_decide_eq_true (by first|(with_reducible assumption)|assumption)
             have BN:=eP a0 Bw
             replace BH:=eq_true BH
             replace BI:=eq_true BI
             go_wp2_with (first|((with_reducible refine bG (f:=92) rfl ?_);refine dJ (some 24) rfl rfl Tryz.func92 (by kernel_rfl) rfl #[.int .u8 (bt a0 Bw)] rfl (by (try simp only [List.map_toArray,List.map_cons,List.map_nil]);first|done|rfl|(simp only [List.length_drop,List.length_take];rfl)|(simp (disch:=first|omega|(simp at *;omega)) only [dK,bW,eG];rfl)) ?_;(with_reducible refine (eD.calls (bt a0 Bw) false _ Cc.out).mono ?_);rintro e w' ⟨rfl,⟨nd,rfl⟩⟩;refine ⟨_,rfl,?_⟩;have BJ : 0 ≤ (Bw : Int):=of_decide_eq_true (by first|(with_reducible assumption)|assumption);have BK : Bw < (a0.size : Int):=of_decide_eq_true (by first|(with_reducible assumption)|assumption);have BU:=eP a0 Bw;replace BJ:=eq_true BJ;replace BK:=eq_true BK)|(go_at_call 95;(with_reducible refine (fT.calls (bt a0 Bw) false _ Ck.out).mono ?_);rintro e w' ⟨rfl,⟨nd,rfl⟩⟩;have BQ : 0 ≤ (Bw : Int):=of_decide_eq_true (by first|(with_reducible assumption)|assumption);have BR : Bw < (a0.size : Int):=of_decide_eq_true (by first|(with_reducible assumption)|assumption);have Ch:=eP a0 Bw;replace BQ:=eq_true BQ;replace BR:=eq_true BR)|(go_at_call 93;(with_reducible refine (dH.calls (bt a0 Bw) false _ Co.out).mono ?_);rintro e w' ⟨rfl,⟨nd,rfl⟩⟩;have Ci : 0 ≤ (Bw : Int):=of_decide_eq_true (by first|(with_reducible assumption)|assumption);have Cj : Bw < (a0.size : Int):=of_decide_eq_true (by first|(with_reducible assumption)|assumption);have Cq:=eP a0 Bw;replace Ci:=eq_true Ci;replace Cj:=eq_true Cj))
             go_roundg k2
             case measure=>have:=BO.out;have:=BP.out;omega
             case rel=>exact ⟨(wrap64 (Bw + 1)),(by first|rfl|(simp;done)|(simp [*];done)|exact congrArg Value.bool (cZ _)|exact congrArg Value.bool (cZ _).symm),H',⟨by have:=BO.out;have:=BP.out;omega⟩,by repeat (first|exact Drawn0.refl _|apply Drawn0.step)⟩
            ·rw [if_neg BZ] at H
             have c22b0 : ((bt a0 Bw) == 95) = false:=beq_eq_false_iff_ne.mpr BZ
             have c22b1 : ((bt a0 Bw) != 95) = true:=bne_iff_ne.mpr BZ
             obtain rfl:=Option.some.inj H
             have BH : 0 ≤ (Bw : Int):=of_decide_eq_true (by first|(with_reducible assumption)|assumption)
             have BI : Bw < (a0.size : Int):=of_decide_eq_true (by first|(with_reducible assumption)|assumption)
             have BN:=eP a0 Bw
             replace BH:=eq_true BH
             replace BI:=eq_true BI
             go_wp2_with (first|((with_reducible refine bG (f:=92) rfl ?_);refine dJ (some 24) rfl rfl Tryz.func92 (by kernel_rfl) rfl #[.int .u8 (bt a0 Bw)] rfl (by (try simp only [List.map_toArray,List.map_cons,List.map_nil]);first|done|rfl|(simp only [List.length_drop,List.length_take];rfl)|(simp (disch:=first|omega|(simp at *;omega)) only [dK,bW,eG];rfl)) ?_;(with_reducible refine (eD.calls (bt a0 Bw) false _ Cc.out).mono ?_);rintro e w' ⟨rfl,⟨nd,rfl⟩⟩;refine ⟨_,rfl,?_⟩;have BJ : 0 ≤ (Bw : Int):=of_decide_eq_true (by first|(with_reducible assumption)|assumption);have BK : Bw < (a0.size : Int):=of_decide_eq_true (by first|(with_reducible assumption)|assumption);have BU:=eP a0 Bw;replace BJ:=eq_true BJ;replace BK:=eq_true BK)|(go_at_call 95;(with_reducible refine (fT.calls (bt a0 Bw) false _ Ck.out).mono ?_);rintro e w' ⟨rfl,⟨nd,rfl⟩⟩;have BQ : 0 ≤ (Bw : Int):=of_decide_eq_true (by first|(with_reducible assumption)|assumption);have BR : Bw < (a0.size : Int):=of_decide_eq_true (by first|(with_reducible assumption)|assumption);have Ch:=eP a0 Bw;replace BQ:=eq_true BQ;replace BR:=eq_true BR)|(go_at_call 93;(with_reducible refine (dH.calls (bt a0 Bw) false _ Co.out).mono ?_);rintro e w' ⟨rfl,⟨nd,rfl⟩⟩;have Ci : 0 ≤ (Bw : Int):=of_decide_eq_true (by first|(with_reducible assumption)|assumption);have Cj : Bw < (a0.size : Int):=of_decide_eq_true (by first|(with_reducible assumption)|assumption);have Cq:=eP a0 Bw;replace Ci:=eq_true Ci;replace Cj:=eq_true Cj))
             go_ret
             exact ⟨by first|rfl|(simp;done)|(simp [*];done),by repeat (first|exact Drawn0.refl _|apply Drawn0.step)⟩
        ·rw [if_neg c11] at H
         exact absurd H (by simp)
       ·rw [if_neg c10] at H
        exact absurd H (by simp)
      ·rw [if_neg c9] at H
       have c9b0 : decide (Bw < (a0.size : Int)) = false:=decide_eq_false c9
       clear c9
       obtain rfl:=Option.some.inj H
       go_wp2
       go_ret
       exact ⟨by first|rfl|(simp;done)|(simp [*];done),by repeat (first|exact Drawn0.refl _|apply Drawn0.step)⟩
end Go.Proofs.YtpncpefppifgdaaGreatDoor.GUt
