/- Written by this session's own program (wip/gen.py) out of the translation: plain Lean functions of the Go functions, and proofs that the calls come to their answers. No conditions beside those in the statements. -/
import Derived.Test.YtpflenjhmeaeoaaDoorGUtx0
import Derived.Test.YtpflenjhmeaeoaaDoorGUtx1
import Derived.Test.YtpflenjhmeaeoaaDoorGUtIndex
namespace Go.Proofs.YtpflenjhmeaeoaaDoor.GUt
open Go.RowKit Go.Proofs.YtpflenjhmeaeoaaDoorW.PrintWords Go.Proofs.YtpflenjhmeaeoaaDoorW.PrintLast Go.Proofs.YtpflenjhmeaeoaaDoorW.PrintMore
attribute [local go_sem] dS dU eG eH dI dJ dV dW
set_option linter.unusedVariables false
set_option linter.unusedSimpArgs false
mutual
def aR.j0 : Nat → ByteArray → Bool → Option (Bool)
 | 0,_,_=>none
 | k + 1,x0,ug=>if ug = true then (some false) else (aR.l0 k x0 (x0.size : Int) 0)
def aR.l0 : Nat → ByteArray → Int → Int → Option (Bool)
 | 0,_,_,_=>none
 | k + 1,x0,x24,x25=>if x25 < x24 then (if 0 ≤ x25 then (if x25 < (x0.size : Int) then ((dx.f (bt x0 x25)).bind fun sN=>(if sN = true then (aR.l0 k x0 x24 (wrap64 (x25 + 1))) else ((dP.f (bt x0 x25)).bind fun t107=>(if t107 = true then (aR.l0 k x0 x24 (wrap64 (x25 + 1))) else ((bR.f (bt x0 x25)).bind fun sF=>(if sF = true then (aR.l0 k x0 x24 (wrap64 (x25 + 1))) else ((strings_IndexByte.f (⟨#[46,95,45,47,58,64]⟩ : ByteArray) (bt x0 x25)).bind fun t109=>(if t109 < 0 then (some false) else (aR.l0 k x0 x24 (wrap64 (x25 + 1))))))))))) else (none)) else (none)) else (some true)
end
def aR.f (k : Nat) (a0 : ByteArray) : Option (Bool):=if a0.toList = ([] : List UInt8) then (aR.j0 k a0 true) else (if (a0.size : Int) > 255 then (aR.j0 k a0 true) else (if 0 < (a0.size : Int) then ((dx.f (bt a0 0)).bind fun sJ=>(if sJ = true then (aR.j0 k a0 false) else ((bR.f (bt a0 0)).bind fun t105=>(aR.j0 k a0 (!t105))))) else (none)))
theorem aR.eu : ∀ k,(∀ y0 y1,LeO (aR.j0 k y0 y1) (aR.j0 (k + 1) y0 y1)) ∧ (∀ y0 y1 y2,LeO (aR.l0 k y0 y1 y2) (aR.l0 (k + 1) y0 y1 y2))
 | 0=>⟨fun _ _ r h=>by simp [aR.j0] at h,fun _ _ _ r h=>by simp [aR.l0] at h⟩
 | k + 1=>by
  obtain ⟨sV,ih1⟩:=aR.eu k
  refine ⟨?_,?_⟩
  ·intro y0 y1
   unfold aR.j0
   repeat' first
   | (with_reducible exact sV _ _)
   | (with_reducible exact ih1 _ _ _)
   | (with_reducible exact LeO.refl _)
   | (with_reducible exact LeO.none _)
   | (with_reducible refine LeO.ite ?_ ?_)
   | (with_reducible refine LeO.bind ?_ (fun _=>?_))
   | exact sV _ _
   | exact ih1 _ _ _
   | exact LeO.none _
   | refine LeO.ite ?_ ?_
   | refine LeO.bind ?_ (fun _=>?_)
  ·intro y0 y1 y2
   unfold aR.l0
   repeat' first
   | (with_reducible exact sV _ _)
   | (with_reducible exact ih1 _ _ _)
   | (with_reducible exact LeO.refl _)
   | (with_reducible exact LeO.none _)
   | (with_reducible refine LeO.ite ?_ ?_)
   | (with_reducible refine LeO.bind ?_ (fun _=>?_))
   | exact sV _ _
   | exact ih1 _ _ _
   | exact LeO.none _
   | refine LeO.ite ?_ ?_
   | refine LeO.bind ?_ (fun _=>?_)
theorem aR.mono : ∀ a0 k,LeO (aR.f k a0) (aR.f (k + 1) a0):=by
 intro a0 k
 obtain ⟨sV,ih1⟩:=aR.eu k
 unfold aR.f
 repeat' first
   | (with_reducible exact sV _ _)
   | (with_reducible exact ih1 _ _ _)
   | (with_reducible exact LeO.refl _)
   | (with_reducible exact LeO.none _)
   | (with_reducible refine LeO.ite ?_ ?_)
   | (with_reducible refine LeO.bind ?_ (fun _=>?_))
   | exact sV _ _
   | exact ih1 _ _ _
   | exact LeO.none _
   | refine LeO.ite ?_ ?_
   | refine LeO.bind ?_ (fun _=>?_)
set_option maxHeartbeats 8000000 in
set_option maxRecDepth 100000 in
theorem aR.calls (k : Nat) (a0 : ByteArray) (r : Bool) (w : World) (h : aR.f k a0 = some r) :
  Calls Tryd.prog 40 #[.string a0] w fun e w'=>e = .returned (.bool r) ∧ Drawn0 w w':=by
 have H : (if a0.toList = ([] : List UInt8) then (aR.j0 k a0 true) else (if (a0.size : Int) > 255 then (aR.j0 k a0 true) else (if 0 < (a0.size : Int) then ((dx.f (bt a0 0)).bind fun sJ=>(if sJ = true then (aR.j0 k a0 false) else ((bR.f (bt a0 0)).bind fun t105=>(aR.j0 k a0 (!t105))))) else (none)))) = some r:=h
 clear h
 have tO:=Aside0.mk H
 clear H
 go_enter Tryd.func40,Tryd.ntmps40
 go_upto_region 1 with (fail)
 go_cut [22] (fun v22 wc=>∃ (kq : Nat) (sG : Bool),v22 = .bool sG ∧ Aside0 (aR.j0 kq a0 sG = some r) ∧ Aside0 (kq ≤ k) ∧ Drawn0 w wc)
 case first =>
  have H:=tO.out
  clear tO
  by_cases c3 : a0.toList = ([] : List UInt8)
  ·rw [if_pos c3] at H
   have c3b0 : (a0.toList == ([] : List UInt8)) = true:=beq_iff_eq.mpr c3
   have c3b1 : (a0.toList != ([] : List UInt8)) = false:=bne_eq_false_iff_eq.mpr c3
   clear c3
   (first|rw [c3b0]|(simp only [aV,aW];rw [c3b0])|skip)
   have H':=Aside0.mk H
   clear H
   go_wp2
   go_meet
   case rel=>exact ⟨_,(true),(by first|rfl|(simp;done)|(simp [*];done)|exact congrArg Value.bool (bL _)|exact congrArg Value.bool (bL _).symm),H',⟨by first|omega|exact Nat.le_refl _⟩,by repeat (first|exact Drawn0.refl _|apply Drawn0.step)⟩
  ·rw [if_neg c3] at H
   have c3b0 : (a0.toList == ([] : List UInt8)) = false:=beq_eq_false_iff_ne.mpr c3
   have c3b1 : (a0.toList != ([] : List UInt8)) = true:=bne_iff_ne.mpr c3
   (first|rw [c3b0]|(simp only [aV,aW];rw [c3b0])|skip)
   by_cases c4 : (a0.size : Int) > 255
   ·rw [if_pos c4] at H
    have c4b0 : decide (255 < (a0.size : Int)) = true:=decide_eq_true c4
    have c4b1 : decide (255 < a0.size) = true:=decide_eq_true (by omega)
    clear c4
    have H':=Aside0.mk H
    clear H
    go_wp2
    go_meet
    case rel=>exact ⟨_,(true),(by first|rfl|(simp;done)|(simp [*];done)|exact congrArg Value.bool (bL _)|exact congrArg Value.bool (bL _).symm),H',⟨by first|omega|exact Nat.le_refl _⟩,by repeat (first|exact Drawn0.refl _|apply Drawn0.step)⟩
   ·rw [if_neg c4] at H
    have c4b0 : decide (255 < (a0.size : Int)) = false:=decide_eq_false c4
    have c4b1 : decide (255 < a0.size) = false:=decide_eq_false (by omega)
    clear c4
    by_cases c5 : 0 < (a0.size : Int)
    ·rw [if_pos c5] at H
     have c5b0 : decide (0 < (a0.size : Int)) = true:=decide_eq_true c5
     have c5b1 : decide (0 < a0.size) = true:=decide_eq_true (by omega)
     clear c5
     replace H:=Option.bind_eq_some_iff.mp H
     obtain ⟨sJ,tX,H⟩:=H
     replace H : (if sJ = true then (aR.j0 k a0 false) else ((bR.f (bt a0 0)).bind fun t105=>(aR.j0 k a0 (!t105)))) = some r:=H
     have A7:=Aside0.mk tX
     clear tX
     by_cases c8 : sJ = true
     ·subst c8
      have H1 : (aR.j0 k a0 false) = some r:=by rw [if_pos rfl] at H;exact H
      clear H
      have H:=H1
      clear H1
      have H':=Aside0.mk H
      clear H
      have p6 : 0 ≤ (0 : Int):=(by omega)
      have q6 : 0 < a0.size:=(by have : (0 : Int) < (a0.size : Int):=of_decide_eq_true (by first|(with_reducible assumption)|assumption);omega)
      have hx6 : ∀ h : 0 < a0.size,((a0[0]'h).toNat : Int) = bt a0 0:=dA a0 0
      clear p6
      have tQ : (0 < (a0.size : Int)) = True:=eq_true (of_decide_eq_true (by first|(with_reducible assumption)|assumption))
      replace q6:=eq_true q6
      go_wp2_with (first|(go_at_call 63;(with_reducible refine (dx.calls (bt a0 0) true _ A7.out).mono ?_);rintro e w' ⟨rfl,⟨nd,rfl⟩⟩))
      go_meet
      case rel=>exact ⟨_,(false),(by first|rfl|(simp;done)|(simp [*];done)|exact congrArg Value.bool (bL _)|exact congrArg Value.bool (bL _).symm),H',⟨by first|omega|exact Nat.le_refl _⟩,by repeat (first|exact Drawn0.refl _|apply Drawn0.step)⟩
     ·replace c8:=Bool.eq_false_iff.mpr c8
      subst c8
      have H1 : ((bR.f (bt a0 0)).bind fun t105=>(aR.j0 k a0 (!t105))) = some r:=by rw [if_neg (show ¬ (false = true) by decide)] at H;exact H
      clear H
      have H:=H1
      clear H1
      replace H:=Option.bind_eq_some_iff.mp H
      obtain ⟨t105,tq,H⟩:=H
      replace H : (aR.j0 k a0 (!t105)) = some r:=H
      have uh:=Aside0.mk tq
      clear tq
      have H':=Aside0.mk H
      clear H
      have p6 : 0 ≤ (0 : Int):=(by omega)
      have q6 : 0 < a0.size:=(by have : (0 : Int) < (a0.size : Int):=of_decide_eq_true (by first|(with_reducible assumption)|assumption);omega)
      have hx6 : ∀ h : 0 < a0.size,((a0[0]'h).toNat : Int) = bt a0 0:=dA a0 0
      clear p6
      have tQ : (0 < (a0.size : Int)) = True:=eq_true (of_decide_eq_true (by first|(with_reducible assumption)|assumption))
      replace q6:=eq_true q6
      go_wp2_with (first|(go_at_call 63;(with_reducible refine (dx.calls (bt a0 0) false _ A7.out).mono ?_);rintro e w' ⟨rfl,⟨nd,rfl⟩⟩;have p9 : 0 ≤ (0 : Int):=(by omega);have q9 : 0 < a0.size:=(by have : (0 : Int) < (a0.size : Int):=of_decide_eq_true (by first|(with_reducible assumption)|assumption);omega);have tY : ∀ h : 0 < a0.size,((a0[0]'h).toNat : Int) = bt a0 0:=dA a0 0;clear p9;have tZ : (0 < (a0.size : Int)) = True:=eq_true (of_decide_eq_true (by first|(with_reducible assumption)|assumption));replace q9:=eq_true q9)|(go_at_call 64;(with_reducible refine (bR.calls (bt a0 0) t105 _ uh.out).mono ?_);rintro e w' ⟨rfl,⟨nd,rfl⟩⟩))
      go_meet
      case rel=>exact ⟨_,(!t105),(by first|rfl|(simp;done)|(simp [*];done)|exact congrArg Value.bool (bL _)|exact congrArg Value.bool (bL _).symm),H',⟨by first|omega|exact Nat.le_refl _⟩,by repeat (first|exact Drawn0.refl _|apply Drawn0.step)⟩
    ·rw [if_neg c5] at H
     exact absurd H (by simp)
 case rest =>
  clear tO
  try clear p2
  try clear c3
  try clear c3b0
  try clear c3b1
  try clear c4
  try clear c4b0
  try clear c4b1
  try clear c5
  try clear c5b0
  try clear c5b1
  try clear p6
  try clear q6
  try clear hx6
  try clear tQ
  try clear c8
  try clear p9
  try clear q9
  try clear tY
  try clear tZ
  try clear p6
  try clear p9
  try clear q6
  try clear q9
  obtain ⟨kq,sG,rfl,HA,sP,⟨uj,rfl⟩⟩:=hcut
  cases kq with
  | zero=>exact absurd HA.out (by simp [aR.j0])
  | succ tT =>
   have H:=HA.out
   clear HA
   simp only [aR.j0] at H
   by_cases c11 : sG = true
   ·subst c11
    have H1 : (some false) = some r:=by rw [if_pos rfl] at H;exact H
    clear H
    have H:=H1
    clear H1
    obtain rfl:=Option.some.inj H
    go_wp2
    go_ret
    exact ⟨by first|rfl|(simp;done)|(simp [*];done),by repeat (first|exact Drawn0.refl _|apply Drawn0.step)⟩
   ·replace c11:=Bool.eq_false_iff.mpr c11
    subst c11
    have H1 : (aR.l0 tT a0 (a0.size : Int) 0) = some r:=by rw [if_neg (show ¬ (false = true) by decide)] at H;exact H
    clear H
    have H:=H1
    clear H1
    have H':=Aside0.mk H
    clear H
    go_wp2
    go_loopg [25] tT (fun kq v25 w'=>∃ (sD : Int),v25 = .int .i64 sD ∧ Aside0 (aR.l0 kq a0 (a0.size : Int) sD = some r) ∧ Aside0 (kq ≤ tT) ∧ Drawn0 w w')
    case atStart=>exact ⟨(0),(by first|rfl|(simp;done)|(simp [*];done)|exact congrArg Value.bool (bL _)|exact congrArg Value.bool (bL _).symm),H',⟨Nat.le_refl _⟩,by repeat (first|exact Drawn0.refl _|apply Drawn0.step)⟩
    case round =>
     clear H'
     try clear c1
     try clear p2
     try clear c3
     try clear c3b0
     try clear c3b1
     try clear c4
     try clear c4b0
     try clear c4b1
     try clear c5
     try clear c5b0
     try clear c5b1
     try clear p6
     try clear q6
     try clear hx6
     try clear tQ
     try clear c8
     try clear p9
     try clear q9
     try clear tY
     try clear tZ
     try clear c11
     try clear p2
     try clear p6
     try clear p9
     try clear q6
     try clear q9
     obtain ⟨sD,rfl,HA,sQ,⟨m2,rfl⟩⟩:=hrel
     cases gk with
     | zero=>exact absurd HA.out (by simp [aR.l0])
     | succ k2 =>
      have H:=HA.out
      clear HA
      simp only [aR.l0] at H
      by_cases c12 : sD < (a0.size : Int)
      ·rw [if_pos c12] at H
       have c12b0 : decide (sD < (a0.size : Int)) = true:=decide_eq_true c12
       clear c12
       by_cases c13 : 0 ≤ sD
       ·rw [if_pos c13] at H
        have c13b0 : decide (0 ≤ sD) = true:=decide_eq_true c13
        clear c13
        by_cases c14 : sD < (a0.size : Int)
        ·rw [if_pos c14] at H
         have c14b0 : decide (sD < (a0.size : Int)) = true:=decide_eq_true c14
         clear c14
         replace H:=Option.bind_eq_some_iff.mp H
         obtain ⟨sN,tu,H⟩:=H
         replace H : (if sN = true then (aR.l0 k2 a0 (a0.size : Int) (wrap64 (sD + 1))) else ((dP.f (bt a0 sD)).bind fun t107=>(if t107 = true then (aR.l0 k2 a0 (a0.size : Int) (wrap64 (sD + 1))) else ((bR.f (bt a0 sD)).bind fun sF=>(if sF = true then (aR.l0 k2 a0 (a0.size : Int) (wrap64 (sD + 1))) else ((strings_IndexByte.f (⟨#[46,95,45,47,58,64]⟩ : ByteArray) (bt a0 sD)).bind fun t109=>(if t109 < 0 then (some false) else (aR.l0 k2 a0 (a0.size : Int) (wrap64 (sD + 1)))))))))) = some r:=H
         have tC:=Aside0.mk tu
         clear tu
         by_cases c17 : sN = true
         ·subst c17
          have H1 : (aR.l0 k2 a0 (a0.size : Int) (wrap64 (sD + 1))) = some r:=by rw [if_pos rfl] at H;exact H
          clear H
          have H:=H1
          clear H1
          have H':=Aside0.mk H
          clear H
          have sH : 0 ≤ (sD : Int):=of_decide_eq_true (by first|(with_reducible assumption)|assumption)
          have sI : sD < (a0.size : Int):=of_decide_eq_true (by first|(with_reducible assumption)|assumption)
          have sO:=dA a0 sD
          replace sH:=eq_true sH
          replace sI:=eq_true sI
          go_wp2_with (first|((with_reducible refine aM (f:=63) rfl ?_);refine bE (some 31) rfl rfl Tryd.func63 (by kernel_rfl) rfl #[.int .u8 (bt a0 sD)] rfl (by (try simp only [List.map_toArray,List.map_cons,List.map_nil]);first|done|rfl|(simp only [List.length_drop,List.length_take];rfl)|(simp (disch:=first|omega|(simp at *;omega)) only [bF,bg,bU];rfl)) ?_;(with_reducible refine (dx.calls (bt a0 sD) true _ tC.out).mono ?_);rintro e w' ⟨rfl,⟨nd,rfl⟩⟩;refine ⟨_,rfl,?_⟩))
          go_roundg k2
          case measure=>have:=sP.out;have:=sQ.out;omega
          case rel=>exact ⟨(wrap64 (sD + 1)),(by first|rfl|(simp;done)|(simp [*];done)|exact congrArg Value.bool (bL _)|exact congrArg Value.bool (bL _).symm),H',⟨by have:=sP.out;have:=sQ.out;omega⟩,by repeat (first|exact Drawn0.refl _|apply Drawn0.step)⟩
         ·replace c17:=Bool.eq_false_iff.mpr c17
          subst c17
          have H1 : ((dP.f (bt a0 sD)).bind fun t107=>(if t107 = true then (aR.l0 k2 a0 (a0.size : Int) (wrap64 (sD + 1))) else ((bR.f (bt a0 sD)).bind fun sF=>(if sF = true then (aR.l0 k2 a0 (a0.size : Int) (wrap64 (sD + 1))) else ((strings_IndexByte.f (⟨#[46,95,45,47,58,64]⟩ : ByteArray) (bt a0 sD)).bind fun t109=>(if t109 < 0 then (some false) else (aR.l0 k2 a0 (a0.size : Int) (wrap64 (sD + 1))))))))) = some r:=by rw [if_neg (show ¬ (false = true) by decide)] at H;exact H
          clear H
          have H:=H1
          clear H1
          replace H:=Option.bind_eq_some_iff.mp H
          obtain ⟨t107,tF,H⟩:=H
          replace H : (if t107 = true then (aR.l0 k2 a0 (a0.size : Int) (wrap64 (sD + 1))) else ((bR.f (bt a0 sD)).bind fun sF=>(if sF = true then (aR.l0 k2 a0 (a0.size : Int) (wrap64 (sD + 1))) else ((strings_IndexByte.f (⟨#[46,95,45,47,58,64]⟩ : ByteArray) (bt a0 sD)).bind fun t109=>(if t109 < 0 then (some false) else (aR.l0 k2 a0 (a0.size : Int) (wrap64 (sD + 1)))))))) = some r:=H
          have tN:=Aside0.mk tF
          clear tF
          by_cases c20 : t107 = true
          ·subst c20
           have H1 : (aR.l0 k2 a0 (a0.size : Int) (wrap64 (sD + 1))) = some r:=by rw [if_pos rfl] at H;exact H
           clear H
           have H:=H1
           clear H1
           have H':=Aside0.mk H
           clear H
           have sH : 0 ≤ (sD : Int):=of_decide_eq_true (by first|(with_reducible assumption)|assumption)
           have sI : sD < (a0.size : Int):=of_decide_eq_true (by first|(with_reducible assumption)|assumption)
           have sO:=dA a0 sD
           replace sH:=eq_true sH
           replace sI:=eq_true sI
           go_wp2_with (first|((with_reducible refine aM (f:=63) rfl ?_);refine bE (some 31) rfl rfl Tryd.func63 (by kernel_rfl) rfl #[.int .u8 (bt a0 sD)] rfl (by (try simp only [List.map_toArray,List.map_cons,List.map_nil]);first|done|rfl|(simp only [List.length_drop,List.length_take];rfl)|(simp (disch:=first|omega|(simp at *;omega)) only [bF,bg,bU];rfl)) ?_;(with_reducible refine (dx.calls (bt a0 sD) false _ tC.out).mono ?_);rintro e w' ⟨rfl,⟨nd,rfl⟩⟩;refine ⟨_,rfl,?_⟩;have sK : 0 ≤ (sD : Int):=of_decide_eq_true (by first|(with_reducible assumption)|assumption);have sM : sD < (a0.size : Int):=of_decide_eq_true (by first|(with_reducible assumption)|assumption);have sW:=dA a0 sD;replace sK:=eq_true sK;replace sM:=eq_true sM)|(go_at_call 65;(with_reducible refine (dP.calls (bt a0 sD) true _ tN.out).mono ?_);rintro e w' ⟨rfl,⟨nd,rfl⟩⟩))
           go_roundg k2
           case measure=>have:=sP.out;have:=sQ.out;omega
           case rel=>exact ⟨(wrap64 (sD + 1)),(by first|rfl|(simp;done)|(simp [*];done)|exact congrArg Value.bool (bL _)|exact congrArg Value.bool (bL _).symm),H',⟨by have:=sP.out;have:=sQ.out;omega⟩,by repeat (first|exact Drawn0.refl _|apply Drawn0.step)⟩
          ·replace c20:=Bool.eq_false_iff.mpr c20
           subst c20
           have H1 : ((bR.f (bt a0 sD)).bind fun sF=>(if sF = true then (aR.l0 k2 a0 (a0.size : Int) (wrap64 (sD + 1))) else ((strings_IndexByte.f (⟨#[46,95,45,47,58,64]⟩ : ByteArray) (bt a0 sD)).bind fun t109=>(if t109 < 0 then (some false) else (aR.l0 k2 a0 (a0.size : Int) (wrap64 (sD + 1))))))) = some r:=by rw [if_neg (show ¬ (false = true) by decide)] at H;exact H
           clear H
           have H:=H1
           clear H1
           replace H:=Option.bind_eq_some_iff.mp H
           obtain ⟨sF,tH,H⟩:=H
           replace H : (if sF = true then (aR.l0 k2 a0 (a0.size : Int) (wrap64 (sD + 1))) else ((strings_IndexByte.f (⟨#[46,95,45,47,58,64]⟩ : ByteArray) (bt a0 sD)).bind fun t109=>(if t109 < 0 then (some false) else (aR.l0 k2 a0 (a0.size : Int) (wrap64 (sD + 1)))))) = some r:=H
           have tV:=Aside0.mk tH
           clear tH
           by_cases c23 : sF = true
           ·subst c23
            have H1 : (aR.l0 k2 a0 (a0.size : Int) (wrap64 (sD + 1))) = some r:=by rw [if_pos rfl] at H;exact H
            clear H
            have H:=H1
            clear H1
            have H':=Aside0.mk H
            clear H
            have sH : 0 ≤ (sD : Int):=of_decide_eq_true (by first|(with_reducible assumption)|assumption)
            have sI : sD < (a0.size : Int):=of_decide_eq_true (by first|(with_reducible assumption)|assumption)
            have sO:=dA a0 sD
            replace sH:=eq_true sH
            replace sI:=eq_true sI
            go_wp2_with (first|((with_reducible refine aM (f:=63) rfl ?_);refine bE (some 31) rfl rfl Tryd.func63 (by kernel_rfl) rfl #[.int .u8 (bt a0 sD)] rfl (by (try simp only [List.map_toArray,List.map_cons,List.map_nil]);first|done|rfl|(simp only [List.length_drop,List.length_take];rfl)|(simp (disch:=first|omega|(simp at *;omega)) only [bF,bg,bU];rfl)) ?_;(with_reducible refine (dx.calls (bt a0 sD) false _ tC.out).mono ?_);rintro e w' ⟨rfl,⟨nd,rfl⟩⟩;refine ⟨_,rfl,?_⟩;have sK : 0 ≤ (sD : Int):=of_decide_eq_true (by first|(with_reducible assumption)|assumption);have sM : sD < (a0.size : Int):=of_decide_eq_true (by first|(with_reducible assumption)|assumption);have sW:=dA a0 sD;replace sK:=eq_true sK;replace sM:=eq_true sM)|(go_at_call 65;(with_reducible refine (dP.calls (bt a0 sD) false _ tN.out).mono ?_);rintro e w' ⟨rfl,⟨nd,rfl⟩⟩;have sS : 0 ≤ (sD : Int):=of_decide_eq_true (by first|(with_reducible assumption)|assumption);have sU : sD < (a0.size : Int):=of_decide_eq_true (by first|(with_reducible assumption)|assumption);have tJ:=dA a0 sD;replace sS:=eq_true sS;replace sU:=eq_true sU)|(go_at_call 64;(with_reducible refine (bR.calls (bt a0 sD) true _ tV.out).mono ?_);rintro e w' ⟨rfl,⟨nd,rfl⟩⟩))
            go_roundg k2
            case measure=>have:=sP.out;have:=sQ.out;omega
            case rel=>exact ⟨(wrap64 (sD + 1)),(by first|rfl|(simp;done)|(simp [*];done)|exact congrArg Value.bool (bL _)|exact congrArg Value.bool (bL _).symm),H',⟨by have:=sP.out;have:=sQ.out;omega⟩,by repeat (first|exact Drawn0.refl _|apply Drawn0.step)⟩
           ·replace c23:=Bool.eq_false_iff.mpr c23
            subst c23
            have H1 : ((strings_IndexByte.f (⟨#[46,95,45,47,58,64]⟩ : ByteArray) (bt a0 sD)).bind fun t109=>(if t109 < 0 then (some false) else (aR.l0 k2 a0 (a0.size : Int) (wrap64 (sD + 1))))) = some r:=by rw [if_neg (show ¬ (false = true) by decide)] at H;exact H
            clear H
            have H:=H1
            clear H1
            replace H:=Option.bind_eq_some_iff.mp H
            obtain ⟨t109,tK,H⟩:=H
            replace H : (if t109 < 0 then (some false) else (aR.l0 k2 a0 (a0.size : Int) (wrap64 (sD + 1)))) = some r:=H
            have uf:=Aside0.mk tK
            clear tK
            by_cases sZ : t109 < 0
            ·rw [if_pos sZ] at H
             have c26b0 : decide (t109 < 0) = true:=decide_eq_true sZ
             clear sZ
             obtain rfl:=Option.some.inj H
             have sH : 0 ≤ (sD : Int):=of_decide_eq_true (by first|(with_reducible assumption)|assumption)
             have sI : sD < (a0.size : Int):=of_decide_eq_true (by first|(with_reducible assumption)|assumption)
             have sO:=dA a0 sD
             replace sH:=eq_true sH
             replace sI:=eq_true sI
             go_wp2_with (first|((with_reducible refine aM (f:=63) rfl ?_);refine bE (some 31) rfl rfl Tryd.func63 (by kernel_rfl) rfl #[.int .u8 (bt a0 sD)] rfl (by (try simp only [List.map_toArray,List.map_cons,List.map_nil]);first|done|rfl|(simp only [List.length_drop,List.length_take];rfl)|(simp (disch:=first|omega|(simp at *;omega)) only [bF,bg,bU];rfl)) ?_;(with_reducible refine (dx.calls (bt a0 sD) false _ tC.out).mono ?_);rintro e w' ⟨rfl,⟨nd,rfl⟩⟩;refine ⟨_,rfl,?_⟩;have sK : 0 ≤ (sD : Int):=of_decide_eq_true (by first|(with_reducible assumption)|assumption);have sM : sD < (a0.size : Int):=of_decide_eq_true (by first|(with_reducible assumption)|assumption);have sW:=dA a0 sD;replace sK:=eq_true sK;replace sM:=eq_true sM)|(go_at_call 65;(with_reducible refine (dP.calls (bt a0 sD) false _ tN.out).mono ?_);rintro e w' ⟨rfl,⟨nd,rfl⟩⟩;have sS : 0 ≤ (sD : Int):=of_decide_eq_true (by first|(with_reducible assumption)|assumption);have sU : sD < (a0.size : Int):=of_decide_eq_true (by first|(with_reducible assumption)|assumption);have tJ:=dA a0 sD;replace sS:=eq_true sS;replace sU:=eq_true sU)|(go_at_call 64;(with_reducible refine (bR.calls (bt a0 sD) false _ tV.out).mono ?_);rintro e w' ⟨rfl,⟨nd,rfl⟩⟩;have tL : 0 ≤ (sD : Int):=of_decide_eq_true (by first|(with_reducible assumption)|assumption);have q24 : sD < (a0.size : Int):=of_decide_eq_true (by first|(with_reducible assumption)|assumption);have hx24:=dA a0 sD;replace tL:=eq_true tL;replace q24:=eq_true q24)|(go_at_call 66;(with_reducible refine (strings_IndexByte.calls (⟨#[46,95,45,47,58,64]⟩ : ByteArray) (bt a0 sD) t109 _ uf.out).mono ?_);rintro e w' ⟨rfl,⟨nd,rfl⟩⟩))
             go_ret
             exact ⟨by first|rfl|(simp;done)|(simp [*];done),by repeat (first|exact Drawn0.refl _|apply Drawn0.step)⟩
            ·rw [if_neg sZ] at H
             have c26b0 : decide (t109 < 0) = false:=decide_eq_false sZ
             clear sZ
             have H':=Aside0.mk H
             clear H
             have sH : 0 ≤ (sD : Int):=of_decide_eq_true (by first|(with_reducible assumption)|assumption)
             have sI : sD < (a0.size : Int):=of_decide_eq_true (by first|(with_reducible assumption)|assumption)
             have sO:=dA a0 sD
             replace sH:=eq_true sH
             replace sI:=eq_true sI
             go_wp2_with (first|((with_reducible refine aM (f:=63) rfl ?_);refine bE (some 31) rfl rfl Tryd.func63 (by kernel_rfl) rfl #[.int .u8 (bt a0 sD)] rfl (by (try simp only [List.map_toArray,List.map_cons,List.map_nil]);first|done|rfl|(simp only [List.length_drop,List.length_take];rfl)|(simp (disch:=first|omega|(simp at *;omega)) only [bF,bg,bU];rfl)) ?_;(with_reducible refine (dx.calls (bt a0 sD) false _ tC.out).mono ?_);rintro e w' ⟨rfl,⟨nd,rfl⟩⟩;refine ⟨_,rfl,?_⟩;have sK : 0 ≤ (sD : Int):=of_decide_eq_true (by first|(with_reducible assumption)|assumption);have sM : sD < (a0.size : Int):=of_decide_eq_true (by first|(with_reducible assumption)|assumption);have sW:=dA a0 sD;replace sK:=eq_true sK;replace sM:=eq_true sM)|(go_at_call 65;(with_reducible refine (dP.calls (bt a0 sD) false _ tN.out).mono ?_);rintro e w' ⟨rfl,⟨nd,rfl⟩⟩;have sS : 0 ≤ (sD : Int):=of_decide_eq_true (by first|(with_reducible assumption)|assumption);have sU : sD < (a0.size : Int):=of_decide_eq_true (by first|(with_reducible assumption)|assumption);have tJ:=dA a0 sD;replace sS:=eq_true sS;replace sU:=eq_true sU)|(go_at_call 64;(with_reducible refine (bR.calls (bt a0 sD) false _ tV.out).mono ?_);rintro e w' ⟨rfl,⟨nd,rfl⟩⟩;have tL : 0 ≤ (sD : Int):=of_decide_eq_true (by first|(with_reducible assumption)|assumption);have q24 : sD < (a0.size : Int):=of_decide_eq_true (by first|(with_reducible assumption)|assumption);have hx24:=dA a0 sD;replace tL:=eq_true tL;replace q24:=eq_true q24)|(go_at_call 66;(with_reducible refine (strings_IndexByte.calls (⟨#[46,95,45,47,58,64]⟩ : ByteArray) (bt a0 sD) t109 _ uf.out).mono ?_);rintro e w' ⟨rfl,⟨nd,rfl⟩⟩))
             go_roundg k2
             case measure=>have:=sP.out;have:=sQ.out;omega
             case rel=>exact ⟨(wrap64 (sD + 1)),(by first|rfl|(simp;done)|(simp [*];done)|exact congrArg Value.bool (bL _)|exact congrArg Value.bool (bL _).symm),H',⟨by have:=sP.out;have:=sQ.out;omega⟩,by repeat (first|exact Drawn0.refl _|apply Drawn0.step)⟩
        ·rw [if_neg c14] at H
         exact absurd H (by simp)
       ·rw [if_neg c13] at H
        exact absurd H (by simp)
      ·rw [if_neg c12] at H
       have c12b0 : decide (sD < (a0.size : Int)) = false:=decide_eq_false c12
       clear c12
       obtain rfl:=Option.some.inj H
       go_wp2
       go_ret
       exact ⟨by first|rfl|(simp;done)|(simp [*];done),by repeat (first|exact Drawn0.refl _|apply Drawn0.step)⟩
end Go.Proofs.YtpflenjhmeaeoaaDoor.GUt
