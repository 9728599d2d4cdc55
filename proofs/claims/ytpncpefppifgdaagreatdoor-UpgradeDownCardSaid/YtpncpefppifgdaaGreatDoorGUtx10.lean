/- Written by this session's own program (wip/gen.py) out of the translation: plain Lean functions of the Go functions, and proofs that the calls come to their answers. No conditions beside those in the statements. -/
import Derived.Test.YtpncpefppifgdaaGreatDoorGUtx0
import Derived.Test.YtpncpefppifgdaaGreatDoorGUtx3
import Derived.Test.YtpncpefppifgdaaGreatDoorGUtIndex
namespace Go.Proofs.YtpncpefppifgdaaGreatDoor.GUt
open Go.RowKit Go.Proofs.YtpncpefppifgdaaGreatDoorW.PrintWords Go.Proofs.YtpncpefppifgdaaGreatDoorW.PrintLast Go.Proofs.YtpncpefppifgdaaGreatDoorW.PrintMore
attribute [local go_sem] fH fI gF gG eZ fq fJ fK
set_option linter.unusedVariables false
set_option linter.unusedSimpArgs false
mutual
def bC.j0 : Nat → ByteArray → Bool → Option (Bool)
 | 0,_,_=>none
 | k + 1,x0,Cw=>if Cw = true then (some false) else (bC.l0 k x0 (x0.size : Int) 0)
def bC.l0 : Nat → ByteArray → Int → Int → Option (Bool)
 | 0,_,_,_=>none
 | k + 1,x0,x24,x25=>if x25 < x24 then (if 0 ≤ x25 then (if x25 < (x0.size : Int) then ((eD.f (bt x0 x25)).bind fun BL=>(if BL = true then (bC.l0 k x0 x24 (wrap64 (x25 + 1))) else ((fT.f (bt x0 x25)).bind fun t138=>(if t138 = true then (bC.l0 k x0 x24 (wrap64 (x25 + 1))) else ((dH.f (bt x0 x25)).bind fun t139=>(if t139 = true then (bC.l0 k x0 x24 (wrap64 (x25 + 1))) else ((strings_IndexByte.f (⟨#[46,95,45,47,58,64]⟩ : ByteArray) (bt x0 x25)).bind fun Bz=>(if Bz < 0 then (some false) else (bC.l0 k x0 x24 (wrap64 (x25 + 1))))))))))) else (none)) else (none)) else (some true)
end
def bC.f (k : Nat) (a0 : ByteArray) : Option (Bool):=if a0.toList = ([] : List UInt8) then (bC.j0 k a0 true) else (if (a0.size : Int) > 255 then (bC.j0 k a0 true) else (if 0 < (a0.size : Int) then ((eD.f (bt a0 0)).bind fun BI=>(if BI = true then (bC.j0 k a0 false) else ((dH.f (bt a0 0)).bind fun BD=>(bC.j0 k a0 (!BD))))) else (none)))
theorem bC.eB : ∀ k,(∀ y0 y1,LeO (bC.j0 k y0 y1) (bC.j0 (k + 1) y0 y1)) ∧ (∀ y0 y1 y2,LeO (bC.l0 k y0 y1 y2) (bC.l0 (k + 1) y0 y1 y2))
 | 0=>⟨fun _ _ r h=>by simp [bC.j0] at h,fun _ _ _ r h=>by simp [bC.l0] at h⟩
 | k + 1=>by
  obtain ⟨BS,ih1⟩:=bC.eB k
  refine ⟨?_,?_⟩
  ·intro y0 y1
   unfold bC.j0
   repeat' first
   | (with_reducible exact BS _ _)
   | (with_reducible exact ih1 _ _ _)
   | (with_reducible exact LeO.refl _)
   | (with_reducible exact LeO.none _)
   | (with_reducible refine LeO.ite ?_ ?_)
   | (with_reducible refine LeO.bind ?_ (fun _=>?_))
   | exact BS _ _
   | exact ih1 _ _ _
   | exact LeO.none _
   | refine LeO.ite ?_ ?_
   | refine LeO.bind ?_ (fun _=>?_)
  ·intro y0 y1 y2
   unfold bC.l0
   repeat' first
   | (with_reducible exact BS _ _)
   | (with_reducible exact ih1 _ _ _)
   | (with_reducible exact LeO.refl _)
   | (with_reducible exact LeO.none _)
   | (with_reducible refine LeO.ite ?_ ?_)
   | (with_reducible refine LeO.bind ?_ (fun _=>?_))
   | exact BS _ _
   | exact ih1 _ _ _
   | exact LeO.none _
   | refine LeO.ite ?_ ?_
   | refine LeO.bind ?_ (fun _=>?_)
theorem bC.mono : ∀ a0 k,LeO (bC.f k a0) (bC.f (k + 1) a0):=by
 intro a0 k
 obtain ⟨BS,ih1⟩:=bC.eB k
 unfold bC.f
 repeat' first
   | (with_reducible exact BS _ _)
   | (with_reducible exact ih1 _ _ _)
   | (with_reducible exact LeO.refl _)
   | (with_reducible exact LeO.none _)
   | (with_reducible refine LeO.ite ?_ ?_)
   | (with_reducible refine LeO.bind ?_ (fun _=>?_))
   | exact BS _ _
   | exact ih1 _ _ _
   | exact LeO.none _
   | refine LeO.ite ?_ ?_
   | refine LeO.bind ?_ (fun _=>?_)
set_option maxHeartbeats 8000000 in
set_option maxRecDepth 100000 in
theorem bC.calls (k : Nat) (a0 : ByteArray) (r : Bool) (w : World) (h : bC.f k a0 = some r) :
  Calls Tryz.prog 89 #[.string a0] w fun e w'=>e = .returned (.bool r) ∧ Drawn0 w w':=by
 have H : (if a0.toList = ([] : List UInt8) then (bC.j0 k a0 true) else (if (a0.size : Int) > 255 then (bC.j0 k a0 true) else (if 0 < (a0.size : Int) then ((eD.f (bt a0 0)).bind fun BI=>(if BI = true then (bC.j0 k a0 false) else ((dH.f (bt a0 0)).bind fun BD=>(bC.j0 k a0 (!BD))))) else (none)))) = some r:=h
 clear h
 have Cm:=Aside0.mk H
 clear H
 go_enter Tryz.func89,Tryz.ntmps89
 go_upto_region 1 with (fail)
 go_cut [22] (fun v22 wc=>∃ (kq : Nat) (BF : Bool),v22 = .bool BF ∧ Aside0 (bC.j0 kq a0 BF = some r) ∧ Aside0 (kq ≤ k) ∧ Drawn0 w wc)
 case first =>
  have H:=Cm.out
  clear Cm
  by_cases c3 : a0.toList = ([] : List UInt8)
  ·rw [if_pos c3] at H
   have c3b0 : (a0.toList == ([] : List UInt8)) = true:=beq_iff_eq.mpr c3
   have c3b1 : (a0.toList != ([] : List UInt8)) = false:=bne_eq_false_iff_eq.mpr c3
   clear c3
   (first|rw [c3b0]|(simp only [bO,bR];rw [c3b0])|skip)
   have H':=Aside0.mk H
   clear H
   go_wp2
   go_meet
   case rel=>exact ⟨_,(true),(by first|rfl|(simp;done)|(simp [*];done)|exact congrArg Value.bool (cZ _)|exact congrArg Value.bool (cZ _).symm),H',⟨by first|omega|exact Nat.le_refl _⟩,by repeat (first|exact Drawn0.refl _|apply Drawn0.step)⟩
  ·rw [if_neg c3] at H
   have c3b0 : (a0.toList == ([] : List UInt8)) = false:=beq_eq_false_iff_ne.mpr c3
   have c3b1 : (a0.toList != ([] : List UInt8)) = true:=bne_iff_ne.mpr c3
   (first|rw [c3b0]|(simp only [bO,bR];rw [c3b0])|skip)
   by_cases c4 : (a0.size : Int) > 255
   ·rw [if_pos c4] at H
    have c4b0 : decide (255 < (a0.size : Int)) = true:=decide_eq_true c4
    have c4b1 : decide (255 < a0.size) = true:=decide_eq_true (by omega)
    clear c4
    have H':=Aside0.mk H
    clear H
    go_wp2
    go_meet
    case rel=>exact ⟨_,(true),(by first|rfl|(simp;done)|(simp [*];done)|exact congrArg Value.bool (cZ _)|exact congrArg Value.bool (cZ _).symm),H',⟨by first|omega|exact Nat.le_refl _⟩,by repeat (first|exact Drawn0.refl _|apply Drawn0.step)⟩
   ·rw [if_neg c4] at H
    have c4b0 : decide (255 < (a0.size : Int)) = false:=decide_eq_false c4
    have c4b1 : decide (255 < a0.size) = false:=decide_eq_false (by omega)
    clear c4
    by_cases c5 : 0 < (a0.size : Int)
    ·rw [if_pos c5] at H
     have c5b0 : decide (0 < (a0.size : Int)) = true:=decide_eq_true c5
     have c5b1 : decide (0 < a0.size) = true:=decide_eq_true (by omega)
     clear c5
     replace H:=Option.bind_eq_some_iff.mp H
     obtain ⟨BI,Cr,H⟩:=H
     replace H : (if BI = true then (bC.j0 k a0 false) else ((dH.f (bt a0 0)).bind fun BD=>(bC.j0 k a0 (!BD)))) = some r:=H
     have A7:=Aside0.mk Cr
     clear Cr
     by_cases c8 : BI = true
     ·subst c8
      have H1 : (bC.j0 k a0 false) = some r:=by rw [if_pos rfl] at H;exact H
      clear H
      have H:=H1
      clear H1
      have H':=Aside0.mk H
      clear H
      have p6 : 0 ≤ (0 : Int):=(by omega)
      have q6 : 0 < a0.size:=(by have : (0 : Int) < (a0.size : Int):=of_decide_eq_true (by first|(with_reducible assumption)|assumption);omega)
      have hx6 : ∀ h : 0 < a0.size,((a0[0]'h).toNat : Int) = bt a0 0:=eP a0 0
      clear p6
      have Cn : (0 < (a0.size : Int)) = True:=eq_true (of_decide_eq_true (by first|(with_reducible assumption)|assumption))
      replace q6:=eq_true q6
      go_wp2_with (first|(go_at_call 92;(with_reducible refine (eD.calls (bt a0 0) true _ A7.out).mono ?_);rintro e w' ⟨rfl,⟨nd,rfl⟩⟩))
      go_meet
      case rel=>exact ⟨_,(false),(by first|rfl|(simp;done)|(simp [*];done)|exact congrArg Value.bool (cZ _)|exact congrArg Value.bool (cZ _).symm),H',⟨by first|omega|exact Nat.le_refl _⟩,by repeat (first|exact Drawn0.refl _|apply Drawn0.step)⟩
     ·replace c8:=Bool.eq_false_iff.mpr c8
      subst c8
      have H1 : ((dH.f (bt a0 0)).bind fun BD=>(bC.j0 k a0 (!BD))) = some r:=by rw [if_neg (show ¬ (false = true) by decide)] at H;exact H
      clear H
      have H:=H1
      clear H1
      replace H:=Option.bind_eq_some_iff.mp H
      obtain ⟨BD,Ca,H⟩:=H
      replace H : (bC.j0 k a0 (!BD)) = some r:=H
      have Cx:=Aside0.mk Ca
      clear Ca
      have H':=Aside0.mk H
      clear H
      have p6 : 0 ≤ (0 : Int):=(by omega)
      have q6 : 0 < a0.size:=(by have : (0 : Int) < (a0.size : Int):=of_decide_eq_true (by first|(with_reducible assumption)|assumption);omega)
      have hx6 : ∀ h : 0 < a0.size,((a0[0]'h).toNat : Int) = bt a0 0:=eP a0 0
      clear p6
      have Cn : (0 < (a0.size : Int)) = True:=eq_true (of_decide_eq_true (by first|(with_reducible assumption)|assumption))
      replace q6:=eq_true q6
      go_wp2_with (first|(go_at_call 92;(with_reducible refine (eD.calls (bt a0 0) false _ A7.out).mono ?_);rintro e w' ⟨rfl,⟨nd,rfl⟩⟩;have p9 : 0 ≤ (0 : Int):=(by omega);have q9 : 0 < a0.size:=(by have : (0 : Int) < (a0.size : Int):=of_decide_eq_true (by first|(with_reducible assumption)|assumption);omega);have Ct : ∀ h : 0 < a0.size,((a0[0]'h).toNat : Int) = bt a0 0:=eP a0 0;clear p9;have Cu : (0 < (a0.size : Int)) = True:=eq_true (of_decide_eq_true (by first|(with_reducible assumption)|assumption));replace q9:=eq_true q9)|(go_at_call 93;(with_reducible refine (dH.calls (bt a0 0) BD _ Cx.out).mono ?_);rintro e w' ⟨rfl,⟨nd,rfl⟩⟩))
      go_meet
      case rel=>exact ⟨_,(!BD),(by first|rfl|(simp;done)|(simp [*];done)|exact congrArg Value.bool (cZ _)|exact congrArg Value.bool (cZ _).symm),H',⟨by first|omega|exact Nat.le_refl _⟩,by repeat (first|exact Drawn0.refl _|apply Drawn0.step)⟩
    ·rw [if_neg c5] at H
     exact absurd H (by simp)
 case rest =>
  clear Cm
  try clear p2
  try clear c3
  try clear c3b0
  try clear c3b1
  try clear c4
  try clear c4b0
  try clear c4b1
  try clear c5
  try clear c5b0
  try clear c5b1
  try clear p6
  try clear q6
  try clear hx6
  try clear Cn
  try clear c8
  try clear p9
  try clear q9
  try clear Ct
  try clear Cu
  try clear p6
  try clear p9
  try clear q6
  try clear q9
  obtain ⟨kq,BF,rfl,HA,BO,⟨Cy,rfl⟩⟩:=hcut
  cases kq with
  | zero=>exact absurd HA.out (by simp [bC.j0])
  | succ Co =>
   have H:=HA.out
   clear HA
   simp only [bC.j0] at H
   by_cases c11 : BF = true
   ·subst c11
    have H1 : (some false) = some r:=by rw [if_pos rfl] at H;exact H
    clear H
    have H:=H1
    clear H1
    obtain rfl:=Option.some.inj H
    go_wp2
    go_ret
    exact ⟨by first|rfl|(simp;done)|(simp [*];done),by repeat (first|exact Drawn0.refl _|apply Drawn0.step)⟩
   ·replace c11:=Bool.eq_false_iff.mpr c11
    subst c11
    have H1 : (bC.l0 Co a0 (a0.size : Int) 0) = some r:=by rw [if_neg (show ¬ (false = true) by decide)] at H;exact H
    clear H
    have H:=H1
    clear H1
    have H':=Aside0.mk H
    clear H
    go_wp2
    go_loopg [25] Co (fun kq v25 w'=>∃ (Bw : Int),v25 = .int .i64 Bw ∧ Aside0 (bC.l0 kq a0 (a0.size : Int) Bw = some r) ∧ Aside0 (kq ≤ Co) ∧ Drawn0 w w')
    case atStart=>exact ⟨(0),(by first|rfl|(simp;done)|(simp [*];done)|exact congrArg Value.bool (cZ _)|exact congrArg Value.bool (cZ _).symm),H',⟨Nat.le_refl _⟩,by repeat (first|exact Drawn0.refl _|apply Drawn0.step)⟩
    case round =>
     clear H'
     try clear c1
     try clear p2
     try clear c3
     try clear c3b0
     try clear c3b1
     try clear c4
     try clear c4b0
     try clear c4b1
     try clear c5
     try clear c5b0
     try clear c5b1
     try clear p6
     try clear q6
     try clear hx6
     try clear Cn
     try clear c8
     try clear p9
     try clear q9
     try clear Ct
     try clear Cu
     try clear c11
     try clear p2
     try clear p6
     try clear p9
     try clear q6
     try clear q9
     obtain ⟨Bw,rfl,HA,BP,⟨m2,rfl⟩⟩:=hrel
     cases gk with
     | zero=>exact absurd HA.out (by simp [bC.l0])
     | succ k2 =>
      have H:=HA.out
      clear HA
      simp only [bC.l0] at H
      by_cases c12 : Bw < (a0.size : Int)
      ·rw [if_pos c12] at H
       have c12b0 : decide (Bw < (a0.size : Int)) = true:=decide_eq_true c12
       clear c12
       by_cases c13 : 0 ≤ Bw
       ·rw [if_pos c13] at H
        have c13b0 : decide (0 ≤ Bw) = true:=decide_eq_true c13
        clear c13
        by_cases c14 : Bw < (a0.size : Int)
        ·rw [if_pos c14] at H
         have c14b0 : decide (Bw < (a0.size : Int)) = true:=decide_eq_true c14
         clear c14
         replace H:=Option.bind_eq_some_iff.mp H
         obtain ⟨BL,Cb,H⟩:=H
         replace H : (if BL = true then (bC.l0 k2 a0 (a0.size : Int) (wrap64 (Bw + 1))) else ((fT.f (bt a0 Bw)).bind fun t138=>(if t138 = true then (bC.l0 k2 a0 (a0.size : Int) (wrap64 (Bw + 1))) else ((dH.f (bt a0 Bw)).bind fun t139=>(if t139 = true then (bC.l0 k2 a0 (a0.size : Int) (wrap64 (Bw + 1))) else ((strings_IndexByte.f (⟨#[46,95,45,47,58,64]⟩ : ByteArray) (bt a0 Bw)).bind fun Bz=>(if Bz < 0 then (some false) else (bC.l0 k2 a0 (a0.size : Int) (wrap64 (Bw + 1)))))))))) = some r:=H
         have Cc:=Aside0.mk Cb
         clear Cb
         by_cases c17 : BL = true
         ·subst c17
          have H1 : (bC.l0 k2 a0 (a0.size : Int) (wrap64 (Bw + 1))) = some r:=by rw [if_pos rfl] at H;exact H
          clear H
          have H:=H1
          clear H1
          have H':=Aside0.mk H
          clear H
          have BG : 0 ≤ (Bw : Int):=of_decide_eq_true (by first|(with_reducible assumption)|assumption)
          have BH : Bw < (a0.size : Int):=of_decide_eq_true (by first|(with_reducible assumption)|assumption)
          have BN:=eP a0 Bw
          replace BG:=eq_true BG
          replace BH:=eq_true BH
          go_wp2_with (first|((with_reducible refine bG (f:=92) rfl ?_);refine dJ (some 31) rfl rfl Tryz.func92 (by kernel_rfl) rfl #[.int .u8 (bt a0 Bw)] rfl (by (try simp only [List.map_toArray,List.map_cons,List.map_nil]);first|done|rfl|(simp only [List.length_drop,List.length_take];rfl)|(simp (disch:=first|omega|(simp at *;omega)) only [dK,bW,eG];rfl)) ?_;(with_reducible refine (eD.calls (bt a0 Bw) true _ Cc.out).mono ?_);rintro e w' ⟨rfl,⟨nd,rfl⟩⟩;refine ⟨_,rfl,?_⟩))
          go_roundg k2
          case measure=>have:=BO.out;have:=BP.out;omega
          case rel=>exact ⟨(wrap64 (Bw + 1)),(by first|rfl|(simp;done)|(simp [*];done)|exact congrArg Value.bool (cZ _)|exact congrArg Value.bool (cZ _).symm),H',⟨by have:=BO.out;have:=BP.out;omega⟩,by repeat (first|exact Drawn0.refl _|apply Drawn0.step)⟩
         ·replace c17:=Bool.eq_false_iff.mpr c17
          subst c17
          have H1 : ((fT.f (bt a0 Bw)).bind fun t138=>(if t138 = true then (bC.l0 k2 a0 (a0.size : Int) (wrap64 (Bw + 1))) else ((dH.f (bt a0 Bw)).bind fun t139=>(if t139 = true then (bC.l0 k2 a0 (a0.size : Int) (wrap64 (Bw + 1))) else ((strings_IndexByte.f (⟨#[46,95,45,47,58,64]⟩ : ByteArray) (bt a0 Bw)).bind fun Bz=>(if Bz < 0 then (some false) else (bC.l0 k2 a0 (a0.size : Int) (wrap64 (Bw + 1))))))))) = some r:=by rw [if_neg (show ¬ (false = true) by decide)] at H;exact H
          clear H
          have H:=H1
          clear H1
          replace H:=Option.bind_eq_some_iff.mp H
          obtain ⟨t138,Ce,H⟩:=H
          replace H : (if t138 = true then (bC.l0 k2 a0 (a0.size : Int) (wrap64 (Bw + 1))) else ((dH.f (bt a0 Bw)).bind fun t139=>(if t139 = true then (bC.l0 k2 a0 (a0.size : Int) (wrap64 (Bw + 1))) else ((strings_IndexByte.f (⟨#[46,95,45,47,58,64]⟩ : ByteArray) (bt a0 Bw)).bind fun Bz=>(if Bz < 0 then (some false) else (bC.l0 k2 a0 (a0.size : Int) (wrap64 (Bw + 1)))))))) = some r:=H
          have Ck:=Aside0.mk Ce
          clear Ce
          by_cases c20 : t138 = true
          ·subst c20
           have H1 : (bC.l0 k2 a0 (a0.size : Int) (wrap64 (Bw + 1))) = some r:=by rw [if_pos rfl] at H;exact H
           clear H
           have H:=H1
           clear H1
           have H':=Aside0.mk H
           clear H
           have BG : 0 ≤ (Bw : Int):=of_decide_eq_true (by first|(with_reducible assumption)|assumption)
           have BH : Bw < (a0.size : Int):=of_decide_eq_true (by first|(with_reducible assumption)|assumption)
           have BN:=eP a0 Bw
           replace BG:=eq_true BG
           replace BH:=eq_true BH
           go_wp2_with (first|((with_reducible refine bG (f:=92) rfl ?_);refine dJ (some 31) rfl rfl Tryz.func92 (by kernel_rfl) rfl #[.int .u8 (bt a0 Bw)] rfl (by (try simp only [List.map_toArray,List.map_cons,List.map_nil]);first|done|rfl|(simp only [List.length_drop,List.length_take];rfl)|(simp (disch:=first|omega|(simp at *;omega)) only [dK,bW,eG];rfl)) ?_;(with_reducible refine (eD.calls (bt a0 Bw) false _ Cc.out).mono ?_);rintro e w' ⟨rfl,⟨nd,rfl⟩⟩;refine ⟨_,rfl,?_⟩;have BJ : 0 ≤ (Bw : Int):=of_decide_eq_true (by first|(with_reducible assumption)|assumption);have BK : Bw < (a0.size : Int):=of_decide_eq_true (by first|(with_reducible assumption)|assumption);have BU:=eP a0 Bw;replace BJ:=eq_true BJ;replace BK:=eq_true BK)|(go_at_call 95;(with_reducible refine (fT.calls (bt a0 Bw) true _ Ck.out).mono ?_);rintro e w' ⟨rfl,⟨nd,rfl⟩⟩))
           go_roundg k2
           case measure=>have:=BO.out;have:=BP.out;omega
           case rel=>exact ⟨(wrap64 (Bw + 1)),(by first|rfl|(simp;done)|(simp [*];done)|exact congrArg Value.bool (cZ _)|exact congrArg Value.bool (cZ _).symm),H',⟨by have:=BO.out;have:=BP.out;omega⟩,by repeat (first|exact Drawn0.refl _|apply Drawn0.step)⟩
          ·replace c20:=Bool.eq_false_iff.mpr c20
           subst c20
           have H1 : ((dH.f (bt a0 Bw)).bind fun t139=>(if t139 = true then (bC.l0 k2 a0 (a0.size : Int) (wrap64 (Bw + 1))) else ((strings_IndexByte.f (⟨#[46,95,45,47,58,64]⟩ : ByteArray) (bt a0 Bw)).bind fun Bz=>(if Bz < 0 then (some false) else (bC.l0 k2 a0 (a0.size : Int) (wrap64 (Bw + 1))))))) = some r:=by rw [if_neg (show ¬ (false = true) by decide)] at H;exact H
           clear H
           have H:=H1
           clear H1
           replace H:=Option.bind_eq_some_iff.mp H
           obtain ⟨t139,Cg,H⟩:=H
           replace H : (if t139 = true then (bC.l0 k2 a0 (a0.size : Int) (wrap64 (Bw + 1))) else ((strings_IndexByte.f (⟨#[46,95,45,47,58,64]⟩ : ByteArray) (bt a0 Bw)).bind fun Bz=>(if Bz < 0 then (some false) else (bC.l0 k2 a0 (a0.size : Int) (wrap64 (Bw + 1)))))) = some r:=H
           have Cq:=Aside0.mk Cg
           clear Cg
           by_cases c23 : t139 = true
           ·subst c23
            have H1 : (bC.l0 k2 a0 (a0.size : Int) (wrap64 (Bw + 1))) = some r:=by rw [if_pos rfl] at H;exact H
            clear H
            have H:=H1
            clear H1
            have H':=Aside0.mk H
            clear H
            have BG : 0 ≤ (Bw : Int):=of_decide_eq_true (by first|(with_reducible assumption)|assumption)
            have BH : Bw < (a0.size : Int):=of_decide_eq_true (by first|(with_reducible assumption)|assumption)
            have BN:=eP a0 Bw
            replace BG:=eq_true BG
            replace BH:=eq_true BH
            go_wp2_with (first|((with_reducible refine bG (f:=92) rfl ?_);refine dJ (some 31) rfl rfl Tryz.func92 (by kernel_rfl) rfl #[.int .u8 (bt a0 Bw)] rfl (by (try simp only [List.map_toArray,List.map_cons,List.map_nil]);first|done|rfl|(simp only [List.length_drop,List.length_take];rfl)|(simp (disch:=first|omega|(simp at *;omega)) only [dK,bW,eG];rfl)) ?_;(with_reducible refine (eD.calls (bt a0 Bw) false _ Cc.out).mono ?_);rintro e w' ⟨rfl,⟨nd,rfl⟩⟩;refine ⟨_,rfl,?_⟩;have BJ : 0 ≤ (Bw : Int):=of_decide_eq_true (by first|(with_reducible assumption)|assumption);have BK : Bw < (a0.size : Int):=of_decide_eq_true (by first|(with_reducible assumption)|assumption);have BU:=eP a0 Bw;replace BJ:=eq_true BJ;replace BK:=eq_true BK)|(go_at_call 95;(with_reducible refine (fT.calls (bt a0 Bw) false _ Ck.out).mono ?_);rintro e w' ⟨rfl,⟨nd,rfl⟩⟩;have BQ : 0 ≤ (Bw : Int):=of_decide_eq_true (by first|(with_reducible assumption)|assumption);have BR : Bw < (a0.size : Int):=of_decide_eq_true (by first|(with_reducible assumption)|assumption);have Ch:=eP a0 Bw;replace BQ:=eq_true BQ;replace BR:=eq_true BR)|(go_at_call 93;(with_reducible refine (dH.calls (bt a0 Bw) true _ Cq.out).mono ?_);rintro e w' ⟨rfl,⟨nd,rfl⟩⟩))
            go_roundg k2
            case measure=>have:=BO.out;have:=BP.out;omega
            case rel=>exact ⟨(wrap64 (Bw + 1)),(by first|rfl|(simp;done)|(simp [*];done)|exact congrArg Value.bool (cZ _)|exact congrArg Value.bool (cZ _).symm),H',⟨by have:=BO.out;have:=BP.out;omega⟩,by repeat (first|exact Drawn0.refl _|apply Drawn0.step)⟩
           ·replace c23:=Bool.eq_false_iff.mpr c23
            subst c23
            have H1 : ((strings_IndexByte.f (⟨#[46,95,45,47,58,64]⟩ : ByteArray) (bt a0 Bw)).bind fun Bz=>(if Bz < 0 then (some false) else (bC.l0 k2 a0 (a0.size : Int) (wrap64 (Bw + 1))))) = some r:=by rw [if_neg (show ¬ (false = true) by decide)] at H;exact H
            clear H
            have H:=H1
            clear H1
            replace H:=Option.bind_eq_some_iff.mp H
            obtain ⟨Bz,Ci,H⟩:=H
            replace H : (if Bz < 0 then (some false) else (bC.l0 k2 a0 (a0.size : Int) (wrap64 (Bw + 1)))) = some r:=H
            have Cv:=Aside0.mk Ci
            clear Ci
            by_cases BZ : Bz < 0
            ·rw [if_pos BZ] at H
             have c26b0 : decide (Bz < 0) = true:=decide_eq_true BZ
             clear BZ
             obtain rfl:=Option.some.inj H
             have BG : 0 ≤ (Bw : Int):=of_decide_eq_true (by first|(with_reducible assumption)|assumption)
             have BH : Bw < (a0.size : Int):=of_decide_eq_true (by first|(with_reducible assumption)|assumption)
             have BN:=eP a0 Bw
             replace BG:=eq_true BG
             replace BH:=eq_true BH
             go_wp2_with (first|((with_reducible refine bG (f:=92) rfl ?_);refine dJ (some 31) rfl rfl Tryz.func92 (by kernel_rfl) rfl #[.int .u8 (bt a0 Bw)] rfl (by (try simp only [List.map_toArray,List.map_cons,List.map_nil]);first|done|rfl|(simp only [List.length_drop,List.length_take];rfl)|(simp (disch:=first|omega|(simp at *;omega)) only [dK,bW,eG];rfl)) ?_;(with_reducible refine (eD.calls (bt a0 Bw) false _ Cc.out).mono ?_);rintro e w' ⟨rfl,⟨nd,rfl⟩⟩;refine ⟨_,rfl,?_⟩;have BJ : 0 ≤ (Bw : Int):=of_decide_eq_true (by first|(with_reducible assumption)|assumption);have BK : Bw < (a0.size : Int):=of_decide_eq_true (by first|(with_reducible assumption)|assumption);have BU:=eP a0 Bw;replace BJ:=eq_true BJ;replace BK:=eq_true BK)|(go_at_call 95;(with_reducible refine (fT.calls (bt a0 Bw) false _ Ck.out).mono ?_);rintro e w' ⟨rfl,⟨nd,rfl⟩⟩;have BQ : 0 ≤ (Bw : Int):=of_decide_eq_true (by first|(with_reducible assumption)|assumption);have BR : Bw < (a0.size : Int):=of_decide_eq_true (by first|(with_reducible assumption)|assumption);have Ch:=eP a0 Bw;replace BQ:=eq_true BQ;replace BR:=eq_true BR)|(go_at_call 93;(with_reducible refine (dH.calls (bt a0 Bw) false _ Cq.out).mono ?_);rintro e w' ⟨rfl,⟨nd,rfl⟩⟩;have Cj : 0 ≤ (Bw : Int):=of_decide_eq_true (by first|(with_reducible assumption)|assumption);have q24 : Bw < (a0.size : Int):=of_decide_eq_true (by first|(with_reducible assumption)|assumption);have hx24:=eP a0 Bw;replace Cj:=eq_true Cj;replace q24:=eq_true q24)|(go_at_call 113;(with_reducible refine (strings_IndexByte.calls (⟨#[46,95,45,47,58,64]⟩ : ByteArray) (bt a0 Bw) Bz _ Cv.out).mono ?_);rintro e w' ⟨rfl,⟨nd,rfl⟩⟩))
             go_ret
             exact ⟨by first|rfl|(simp;done)|(simp [*];done),by repeat (first|exact Drawn0.refl _|apply Drawn0.step)⟩
            ·rw [if_neg BZ] at H
             have c26b0 : decide (Bz < 0) = false:=decide_eq_false BZ
             clear BZ
             have H':=Aside0.mk H
             clear H
             have BG : 0 ≤ (Bw : Int):=of_decide_eq_true (by first|(with_reducible assumption)|assumption)
             have BH : Bw < (a0.size : Int):=of_decide_eq_true (by first|(with_reducible assumption)|assumption)
             have BN:=eP a0 Bw
             replace BG:=eq_true BG
             replace BH:=eq_true BH
             go_wp2_with (first|((with_reducible refine bG (f:=92) rfl ?_);refine dJ (some 31) rfl rfl Tryz.func92 (by kernel_rfl) rfl #[.int .u8 (bt a0 Bw)] rfl (by (try simp only [List.map_toArray,List.map_cons,List.map_nil]);first|done|rfl|(simp only [List.length_drop,List.length_take];rfl)|(simp (disch:=first|omega|(simp at *;omega)) only [dK,bW,eG];rfl)) ?_;(with_reducible refine (eD.calls (bt a0 Bw) false _ Cc.out).mono ?_);rintro e w' ⟨rfl,⟨nd,rfl⟩⟩;refine ⟨_,rfl,?_⟩;have BJ : 0 ≤ (Bw : Int):=of_decide_eq_true (by first|(with_reducible assumption)|assumption);have BK : Bw < (a0.size : Int):=of_decide_eq_true (by first|(with_reducible assumption)|assumption);have BU:=eP a0 Bw;replace BJ:=eq_true BJ;replace BK:=eq_true BK)|(go_at_call 95;(with_reducible refine (fT.calls (bt a0 Bw) false _ Ck.out).mono ?_);rintro e w' ⟨rfl,⟨nd,rfl⟩⟩;have BQ : 0 ≤ (Bw : Int):=of_decide_eq_true (by first|(with_reducible assumption)|assumption);have BR : Bw < (a0.size : Int):=of_decide_eq_true (by first|(with_reducible assumption)|assumption);have Ch:=eP a0 Bw;replace BQ:=eq_true BQ;replace BR:=eq_true BR)|(go_at_call 93;(with_reducible refine (dH.calls (bt a0 Bw) false _ Cq.out).mono ?_);rintro e w' ⟨rfl,⟨nd,rfl⟩⟩;have Cj : 0 ≤ (Bw : Int):=of_decide_eq_true (by first|(with_reducible assumption)|assumption);have q24 : Bw < (a0.size : Int):=of_decide_eq_true (by first|(with_reducible assumption)|assumption);have hx24:=eP a0 Bw;replace Cj:=eq_true Cj;replace q24:=eq_true q24)|(go_at_call 113;(with_reducible refine (strings_IndexByte.calls (⟨#[46,95,45,47,58,64]⟩ : ByteArray) (bt a0 Bw) Bz _ Cv.out).mono ?_);rintro e w' ⟨rfl,⟨nd,rfl⟩⟩))
             go_roundg k2
             case measure=>have:=BO.out;have:=BP.out;omega
             case rel=>exact ⟨(wrap64 (Bw + 1)),(by first|rfl|(simp;done)|(simp [*];done)|exact congrArg Value.bool (cZ _)|exact congrArg Value.bool (cZ _).symm),H',⟨by have:=BO.out;have:=BP.out;omega⟩,by repeat (first|exact Drawn0.refl _|apply Drawn0.step)⟩
        ·rw [if_neg c14] at H
         exact absurd H (by simp)
       ·rw [if_neg c13] at H
        exact absurd H (by simp)
      ·rw [if_neg c12] at H
       have c12b0 : decide (Bw < (a0.size : Int)) = false:=decide_eq_false c12
       clear c12
       obtain rfl:=Option.some.inj H
       go_wp2
       go_ret
       exact ⟨by first|rfl|(simp;done)|(simp [*];done),by repeat (first|exact Drawn0.refl _|apply Drawn0.step)⟩
end Go.Proofs.YtpncpefppifgdaaGreatDoor.GUt
