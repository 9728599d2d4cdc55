/- Written by this session's own program (wip/gen.py) out of the translation: plain Lean functions of the Go functions, and proofs that the calls come to their answers. No conditions beside those in the statements. -/
import Derived.Test.YtpflenjhmeaeoaaDoorGUtx0
import Derived.Test.YtpflenjhmeaeoaaDoorGUtx1
namespace Go.Proofs.YtpflenjhmeaeoaaDoor.GUt
open Go.RowKit Go.Proofs.YtpflenjhmeaeoaaDoorW.PrintWords Go.Proofs.YtpflenjhmeaeoaaDoorW.PrintLast Go.Proofs.YtpflenjhmeaeoaaDoorW.PrintMore
attribute [local go_sem] dS dU eG eH dI dJ dV dW
set_option linter.unusedVariables false
set_option linter.unusedSimpArgs false
mutual
def aJ.j0 : Nat → ByteArray → Bool → Option (Bool)
 | 0,_,_=>none
 | k + 1,x0,uf=>if uf = true then (some false) else (aJ.l0 k x0 (x0.size : Int) 0)
def aJ.l0 : Nat → ByteArray → Int → Int → Option (Bool)
 | 0,_,_,_=>none
 | k + 1,x0,tu,x18=>if x18 < tu then (if 0 ≤ x18 then (if x18 < (x0.size : Int) then ((dx.f (bt x0 x18)).bind fun sO=>(if sO = true then (aJ.l0 k x0 tu (wrap64 (x18 + 1))) else ((dP.f (bt x0 x18)).bind fun sG=>(if sG = true then (aJ.l0 k x0 tu (wrap64 (x18 + 1))) else ((bR.f (bt x0 x18)).bind fun sF=>(if sF = true then (aJ.l0 k x0 tu (wrap64 (x18 + 1))) else (if (bt x0 x18) = 95 then (aJ.l0 k x0 tu (wrap64 (x18 + 1))) else (some false)))))))) else (none)) else (none)) else (some true)
end
def aJ.f (k : Nat) (a0 : ByteArray) : Option (Bool):=if a0.toList = ([] : List UInt8) then (aJ.j0 k a0 true) else (if (a0.size : Int) > 63 then (aJ.j0 k a0 true) else (if 0 < (a0.size : Int) then ((bR.f (bt a0 0)).bind fun sH=>(aJ.j0 k a0 sH)) else (none)))
theorem aJ.eu : ∀ k,(∀ y0 y1,LeO (aJ.j0 k y0 y1) (aJ.j0 (k + 1) y0 y1)) ∧ (∀ y0 y1 y2,LeO (aJ.l0 k y0 y1 y2) (aJ.l0 (k + 1) y0 y1 y2))
 | 0=>⟨fun _ _ r h=>by simp [aJ.j0] at h,fun _ _ _ r h=>by simp [aJ.l0] at h⟩
 | k + 1=>by
  obtain ⟨sW,ih1⟩:=aJ.eu k
  refine ⟨?_,?_⟩
  ·intro y0 y1
   unfold aJ.j0
   repeat' first
   | (with_reducible exact sW _ _)
   | (with_reducible exact ih1 _ _ _)
   | (with_reducible exact LeO.refl _)
   | (with_reducible exact LeO.none _)
   | (with_reducible refine LeO.ite ?_ ?_)
   | (with_reducible refine LeO.bind ?_ (fun _=>?_))
   | exact sW _ _
   | exact ih1 _ _ _
   | exact LeO.none _
   | refine LeO.ite ?_ ?_
   | refine LeO.bind ?_ (fun _=>?_)
  ·intro y0 y1 y2
   unfold aJ.l0
   repeat' first
   | (with_reducible exact sW _ _)
   | (with_reducible exact ih1 _ _ _)
   | (with_reducible exact LeO.refl _)
   | (with_reducible exact LeO.none _)
   | (with_reducible refine LeO.ite ?_ ?_)
   | (with_reducible refine LeO.bind ?_ (fun _=>?_))
   | exact sW _ _
   | exact ih1 _ _ _
   | exact LeO.none _
   | refine LeO.ite ?_ ?_
   | refine LeO.bind ?_ (fun _=>?_)
theorem aJ.mono : ∀ a0 k,LeO (aJ.f k a0) (aJ.f (k + 1) a0):=by
 intro a0 k
 obtain ⟨sW,ih1⟩:=aJ.eu k
 unfold aJ.f
 repeat' first
   | (with_reducible exact sW _ _)
   | (with_reducible exact ih1 _ _ _)
   | (with_reducible exact LeO.refl _)
   | (with_reducible exact LeO.none _)
   | (with_reducible refine LeO.ite ?_ ?_)
   | (with_reducible refine LeO.bind ?_ (fun _=>?_))
   | exact sW _ _
   | exact ih1 _ _ _
   | exact LeO.none _
   | refine LeO.ite ?_ ?_
   | refine LeO.bind ?_ (fun _=>?_)
set_option maxHeartbeats 8000000 in
set_option maxRecDepth 100000 in
theorem aJ.calls (k : Nat) (a0 : ByteArray) (r : Bool) (w : World) (h : aJ.f k a0 = some r) :
  Calls Tryd.prog 61 #[.string a0] w fun e w'=>e = .returned (.bool r) ∧ Drawn0 w w':=by
 have H : (if a0.toList = ([] : List UInt8) then (aJ.j0 k a0 true) else (if (a0.size : Int) > 63 then (aJ.j0 k a0 true) else (if 0 < (a0.size : Int) then ((bR.f (bt a0 0)).bind fun sH=>(aJ.j0 k a0 sH)) else (none)))) = some r:=h
 clear h
 have tQ:=Aside0.mk H
 clear H
 go_enter Tryd.func61,Tryd.ntmps61
 go_upto_region 1 with (fail)
 go_cut [15] (fun v15 wc=>∃ (kq : Nat) (sI : Bool),v15 = .bool sI ∧ Aside0 (aJ.j0 kq a0 sI = some r) ∧ Aside0 (kq ≤ k) ∧ Drawn0 w wc)
 case first =>
  have H:=tQ.out
  clear tQ
  by_cases c3 : a0.toList = ([] : List UInt8)
  ·rw [if_pos c3] at H
   have c3b0 : (a0.toList == ([] : List UInt8)) = true:=beq_iff_eq.mpr c3
   have c3b1 : (a0.toList != ([] : List UInt8)) = false:=bne_eq_false_iff_eq.mpr c3
   clear c3
   (first|rw [c3b0]|(simp only [aV,aW];rw [c3b0])|skip)
   have H':=Aside0.mk H
   clear H
   go_wp2
   go_meet
   case rel=>exact ⟨_,(true),(by first|rfl|(simp;done)|(simp [*];done)|exact congrArg Value.bool (bL _)|exact congrArg Value.bool (bL _).symm),H',⟨by first|omega|exact Nat.le_refl _⟩,by repeat (first|exact Drawn0.refl _|apply Drawn0.step)⟩
  ·rw [if_neg c3] at H
   have c3b0 : (a0.toList == ([] : List UInt8)) = false:=beq_eq_false_iff_ne.mpr c3
   have c3b1 : (a0.toList != ([] : List UInt8)) = true:=bne_iff_ne.mpr c3
   (first|rw [c3b0]|(simp only [aV,aW];rw [c3b0])|skip)
   by_cases c4 : (a0.size : Int) > 63
   ·rw [if_pos c4] at H
    have c4b0 : decide (63 < (a0.size : Int)) = true:=decide_eq_true c4
    have c4b1 : decide (63 < a0.size) = true:=decide_eq_true (by omega)
    clear c4
    have H':=Aside0.mk H
    clear H
    go_wp2
    go_meet
    case rel=>exact ⟨_,(true),(by first|rfl|(simp;done)|(simp [*];done)|exact congrArg Value.bool (bL _)|exact congrArg Value.bool (bL _).symm),H',⟨by first|omega|exact Nat.le_refl _⟩,by repeat (first|exact Drawn0.refl _|apply Drawn0.step)⟩
   ·rw [if_neg c4] at H
    have c4b0 : decide (63 < (a0.size : Int)) = false:=decide_eq_false c4
    have c4b1 : decide (63 < a0.size) = false:=decide_eq_false (by omega)
    clear c4
    by_cases c5 : 0 < (a0.size : Int)
    ·rw [if_pos c5] at H
     have c5b0 : decide (0 < (a0.size : Int)) = true:=decide_eq_true c5
     have c5b1 : decide (0 < a0.size) = true:=decide_eq_true (by omega)
     clear c5
     replace H:=Option.bind_eq_some_iff.mp H
     obtain ⟨sH,tY,H⟩:=H
     replace H : (aJ.j0 k a0 sH) = some r:=H
     have A7:=Aside0.mk tY
     clear tY
     have H':=Aside0.mk H
     clear H
     have p6 : 0 ≤ (0 : Int):=(by omega)
     have q6 : 0 < a0.size:=(by have : (0 : Int) < (a0.size : Int):=of_decide_eq_true (by first|(with_reducible assumption)|assumption);omega)
     have hx6 : ∀ h : 0 < a0.size,((a0[0]'h).toNat : Int) = bt a0 0:=dA a0 0
     clear p6
     have tZ : (0 < (a0.size : Int)) = True:=eq_true (of_decide_eq_true (by first|(with_reducible assumption)|assumption))
     replace q6:=eq_true q6
     go_wp2_with (first|(go_at_call 64;(with_reducible refine (bR.calls (bt a0 0) sH _ A7.out).mono ?_);rintro e w' ⟨rfl,⟨nd,rfl⟩⟩))
     go_meet
     case rel=>exact ⟨_,(sH),(by first|rfl|(simp;done)|(simp [*];done)|exact congrArg Value.bool (bL _)|exact congrArg Value.bool (bL _).symm),H',⟨by first|omega|exact Nat.le_refl _⟩,by repeat (first|exact Drawn0.refl _|apply Drawn0.step)⟩
    ·rw [if_neg c5] at H
     exact absurd H (by simp)
 case rest =>
  clear tQ
  try clear p2
  try clear c3
  try clear c3b0
  try clear c3b1
  try clear c4
  try clear c4b0
  try clear c4b1
  try clear c5
  try clear c5b0
  try clear c5b1
  try clear c6
  try clear p6
  try clear q6
  try clear hx6
  try clear tZ
  try clear p6
  try clear q6
  obtain ⟨kq,sI,rfl,HA,sQ,⟨ug,rfl⟩⟩:=hcut
  cases kq with
  | zero=>exact absurd HA.out (by simp [aJ.j0])
  | succ tT =>
   have H:=HA.out
   clear HA
   simp only [aJ.j0] at H
   by_cases c8 : sI = true
   ·subst c8
    have H1 : (some false) = some r:=by rw [if_pos rfl] at H;exact H
    clear H
    have H:=H1
    clear H1
    obtain rfl:=Option.some.inj H
    go_wp2
    go_ret
    exact ⟨by first|rfl|(simp;done)|(simp [*];done),by repeat (first|exact Drawn0.refl _|apply Drawn0.step)⟩
   ·replace c8:=Bool.eq_false_iff.mpr c8
    subst c8
    have H1 : (aJ.l0 tT a0 (a0.size : Int) 0) = some r:=by rw [if_neg (show ¬ (false = true) by decide)] at H;exact H
    clear H
    have H:=H1
    clear H1
    have H':=Aside0.mk H
    clear H
    go_wp2
    go_loopg [18] tT (fun kq v18 w'=>∃ (sD : Int),v18 = .int .i64 sD ∧ Aside0 (aJ.l0 kq a0 (a0.size : Int) sD = some r) ∧ Aside0 (kq ≤ tT) ∧ Drawn0 w w')
    case atStart=>exact ⟨(0),(by first|rfl|(simp;done)|(simp [*];done)|exact congrArg Value.bool (bL _)|exact congrArg Value.bool (bL _).symm),H',⟨Nat.le_refl _⟩,by repeat (first|exact Drawn0.refl _|apply Drawn0.step)⟩
    case round =>
     clear H'
     try clear c1
     try clear p2
     try clear c3
     try clear c3b0
     try clear c3b1
     try clear c4
     try clear c4b0
     try clear c4b1
     try clear c5
     try clear c5b0
     try clear c5b1
     try clear c6
     try clear p6
     try clear q6
     try clear hx6
     try clear tZ
     try clear c8
     try clear p2
     try clear p6
     try clear q6
     obtain ⟨sD,rfl,HA,sS,⟨m2,rfl⟩⟩:=hrel
     cases gk with
     | zero=>exact absurd HA.out (by simp [aJ.l0])
     | succ k2 =>
      have H:=HA.out
      clear HA
      simp only [aJ.l0] at H
      by_cases c9 : sD < (a0.size : Int)
      ·rw [if_pos c9] at H
       have c9b0 : decide (sD < (a0.size : Int)) = true:=decide_eq_true c9
       clear c9
       by_cases c10 : 0 ≤ sD
       ·rw [if_pos c10] at H
        have c10b0 : decide (0 ≤ sD) = true:=decide_eq_true c10
        clear c10
        by_cases c11 : sD < (a0.size : Int)
        ·rw [if_pos c11] at H
         have c11b0 : decide (sD < (a0.size : Int)) = true:=decide_eq_true c11
         clear c11
         replace H:=Option.bind_eq_some_iff.mp H
         obtain ⟨sO,tC,H⟩:=H
         replace H : (if sO = true then (aJ.l0 k2 a0 (a0.size : Int) (wrap64 (sD + 1))) else ((dP.f (bt a0 sD)).bind fun sG=>(if sG = true then (aJ.l0 k2 a0 (a0.size : Int) (wrap64 (sD + 1))) else ((bR.f (bt a0 sD)).bind fun sF=>(if sF = true then (aJ.l0 k2 a0 (a0.size : Int) (wrap64 (sD + 1))) else (if (bt a0 sD) = 95 then (aJ.l0 k2 a0 (a0.size : Int) (wrap64 (sD + 1))) else (some false))))))) = some r:=H
         have tF:=Aside0.mk tC
         clear tC
         by_cases c14 : sO = true
         ·subst c14
          have H1 : (aJ.l0 k2 a0 (a0.size : Int) (wrap64 (sD + 1))) = some r:=by rw [if_pos rfl] at H;exact H
          clear H
          have H:=H1
          clear H1
          have H':=Aside0.mk H
          clear H
          have sJ : 0 ≤ (sD : Int):=of_decide_eq_true (by first|(with_reducible assumption)|assumption)
          have sK : sD < (a0.size : Int):=of_decide_eq_true (by first|(with_reducible assumption)|assumption)
          have sP:=dA a0 sD
          replace sJ:=eq_true sJ
          replace sK:=eq_true sK
          go_wp2_with (first|((with_reducible refine aM (f:=63) rfl ?_);refine bE (some 24) rfl rfl Tryd.func63 (by kernel_rfl) rfl #[.int .u8 (bt a0 sD)] rfl (by (try simp only [List.map_toArray,List.map_cons,List.map_nil]);first|done|rfl|(simp only [List.length_drop,List.length_take];rfl)|(simp (disch:=first|omega|(simp at *;omega)) only [bF,bg,bU];rfl)) ?_;(with_reducible refine (dx.calls (bt a0 sD) true _ tF.out).mono ?_);rintro e w' ⟨rfl,⟨nd,rfl⟩⟩;refine ⟨_,rfl,?_⟩))
          go_roundg k2
          case measure=>have:=sQ.out;have:=sS.out;omega
          case rel=>exact ⟨(wrap64 (sD + 1)),(by first|rfl|(simp;done)|(simp [*];done)|exact congrArg Value.bool (bL _)|exact congrArg Value.bool (bL _).symm),H',⟨by have:=sQ.out;have:=sS.out;omega⟩,by repeat (first|exact Drawn0.refl _|apply Drawn0.step)⟩
         ·replace c14:=Bool.eq_false_iff.mpr c14
          subst c14
          have H1 : ((dP.f (bt a0 sD)).bind fun sG=>(if sG = true then (aJ.l0 k2 a0 (a0.size : Int) (wrap64 (sD + 1))) else ((bR.f (bt a0 sD)).bind fun sF=>(if sF = true then (aJ.l0 k2 a0 (a0.size : Int) (wrap64 (sD + 1))) else (if (bt a0 sD) = 95 then (aJ.l0 k2 a0 (a0.size : Int) (wrap64 (sD + 1))) else (some false)))))) = some r:=by rw [if_neg (show ¬ (false = true) by decide)] at H;exact H
          clear H
          have H:=H1
          clear H1
          replace H:=Option.bind_eq_some_iff.mp H
          obtain ⟨sG,tH,H⟩:=H
          replace H : (if sG = true then (aJ.l0 k2 a0 (a0.size : Int) (wrap64 (sD + 1))) else ((bR.f (bt a0 sD)).bind fun sF=>(if sF = true then (aJ.l0 k2 a0 (a0.size : Int) (wrap64 (sD + 1))) else (if (bt a0 sD) = 95 then (aJ.l0 k2 a0 (a0.size : Int) (wrap64 (sD + 1))) else (some false))))) = some r:=H
          have tO:=Aside0.mk tH
          clear tH
          by_cases c17 : sG = true
          ·subst c17
           have H1 : (aJ.l0 k2 a0 (a0.size : Int) (wrap64 (sD + 1))) = some r:=by rw [if_pos rfl] at H;exact H
           clear H
           have H:=H1
           clear H1
           have H':=Aside0.mk H
           clear H
           have sJ : 0 ≤ (sD : Int):=of_decide_eq_true (by first|(with_reducible assumption)|assumption)
           have sK : sD < (a0.size : Int):=of_decide_eq_true (by first|(with_reducible assumption)|assumption)
           have sP:=dA a0 sD
           replace sJ:=eq_true sJ
           replace sK:=eq_true sK
           go_wp2_with (first|((with_reducible refine aM (f:=63) rfl ?_);refine bE (some 24) rfl rfl Tryd.func63 (by kernel_rfl) rfl #[.int .u8 (bt a0 sD)] rfl (by (try simp only [List.map_toArray,List.map_cons,List.map_nil]);first|done|rfl|(simp only [List.length_drop,List.length_take];rfl)|(simp (disch:=first|omega|(simp at *;omega)) only [bF,bg,bU];rfl)) ?_;(with_reducible refine (dx.calls (bt a0 sD) false _ tF.out).mono ?_);rintro e w' ⟨rfl,⟨nd,rfl⟩⟩;refine ⟨_,rfl,?_⟩;have sM : 0 ≤ (sD : Int):=of_decide_eq_true (by first|(with_reducible assumption)|assumption);have sN : sD < (a0.size : Int):=of_decide_eq_true (by first|(with_reducible assumption)|assumption);have sZ:=dA a0 sD;replace sM:=eq_true sM;replace sN:=eq_true sN)|(go_at_call 65;(with_reducible refine (dP.calls (bt a0 sD) true _ tO.out).mono ?_);rintro e w' ⟨rfl,⟨nd,rfl⟩⟩))
           go_roundg k2
           case measure=>have:=sQ.out;have:=sS.out;omega
           case rel=>exact ⟨(wrap64 (sD + 1)),(by first|rfl|(simp;done)|(simp [*];done)|exact congrArg Value.bool (bL _)|exact congrArg Value.bool (bL _).symm),H',⟨by have:=sQ.out;have:=sS.out;omega⟩,by repeat (first|exact Drawn0.refl _|apply Drawn0.step)⟩
          ·replace c17:=Bool.eq_false_iff.mpr c17
           subst c17
           have H1 : ((bR.f (bt a0 sD)).bind fun sF=>(if sF = true then (aJ.l0 k2 a0 (a0.size : Int) (wrap64 (sD + 1))) else (if (bt a0 sD) = 95 then (aJ.l0 k2 a0 (a0.size : Int) (wrap64 (sD + 1))) else (some false)))) = some r:=by rw [if_neg (show ¬ (false = true) by decide)] at H;exact H
           clear H
           have H:=H1
           clear H1
           replace H:=Option.bind_eq_some_iff.mp H
           obtain ⟨sF,tJ,H⟩:=H
           replace H : (if sF = true then (aJ.l0 k2 a0 (a0.size : Int) (wrap64 (sD + 1))) else (if (bt a0 sD) = 95 then (aJ.l0 k2 a0 (a0.size : Int) (wrap64 (sD + 1))) else (some false))) = some r:=H
           have tV:=Aside0.mk tJ
           clear tJ
           by_cases c20 : sF = true
           ·subst c20
            have H1 : (aJ.l0 k2 a0 (a0.size : Int) (wrap64 (sD + 1))) = some r:=by rw [if_pos rfl] at H;exact H
            clear H
            have H:=H1
            clear H1
            have H':=Aside0.mk H
            clear H
            have sJ : 0 ≤ (sD : Int):=of_decide_eq_true (by first|(with_reducible assumption)|assumption)
            have sK : sD < (a0.size : Int):=of_decide_eq_true (by first|(with_reducible assumption)|assumption)
            have sP:=dA a0 sD
            replace sJ:=eq_true sJ
            replace sK:=eq_true sK
            go_wp2_with (first|((with_reducible refine aM (f:=63) rfl ?_);refine bE (some 24) rfl rfl Tryd.func63 (by kernel_rfl) rfl #[.int .u8 (bt a0 sD)] rfl (by (try simp only [List.map_toArray,List.map_cons,List.map_nil]);first|done|rfl|(simp only [List.length_drop,List.length_take];rfl)|(simp (disch:=first|omega|(simp at *;omega)) only [bF,bg,bU];rfl)) ?_;(with_reducible refine (dx.calls (bt a0 sD) false _ tF.out).mono ?_);rintro e w' ⟨rfl,⟨nd,rfl⟩⟩;refine ⟨_,rfl,?_⟩;have sM : 0 ≤ (sD : Int):=of_decide_eq_true (by first|(with_reducible assumption)|assumption);have sN : sD < (a0.size : Int):=of_decide_eq_true (by first|(with_reducible assumption)|assumption);have sZ:=dA a0 sD;replace sM:=eq_true sM;replace sN:=eq_true sN)|(go_at_call 65;(with_reducible refine (dP.calls (bt a0 sD) false _ tO.out).mono ?_);rintro e w' ⟨rfl,⟨nd,rfl⟩⟩;have sU : 0 ≤ (sD : Int):=of_decide_eq_true (by first|(with_reducible assumption)|assumption);have sV : sD < (a0.size : Int):=of_decide_eq_true (by first|(with_reducible assumption)|assumption);have tK:=dA a0 sD;replace sU:=eq_true sU;replace sV:=eq_true sV)|(go_at_call 64;(with_reducible refine (bR.calls (bt a0 sD) true _ tV.out).mono ?_);rintro e w' ⟨rfl,⟨nd,rfl⟩⟩))
            go_roundg k2
            case measure=>have:=sQ.out;have:=sS.out;omega
            case rel=>exact ⟨(wrap64 (sD + 1)),(by first|rfl|(simp;done)|(simp [*];done)|exact congrArg Value.bool (bL _)|exact congrArg Value.bool (bL _).symm),H',⟨by have:=sQ.out;have:=sS.out;omega⟩,by repeat (first|exact Drawn0.refl _|apply Drawn0.step)⟩
           ·replace c20:=Bool.eq_false_iff.mpr c20
            subst c20
            have H1 : (if (bt a0 sD) = 95 then (aJ.l0 k2 a0 (a0.size : Int) (wrap64 (sD + 1))) else (some false)) = some r:=by rw [if_neg (show ¬ (false = true) by decide)] at H;exact H
            clear H
            have H:=H1
            clear H1
            by_cases tq : (bt a0 sD) = 95
            ·rw [if_pos tq] at H
             have c22b0 : ((bt a0 sD) == 95) = true:=beq_iff_eq.mpr tq
             have c22b1 : ((bt a0 sD) != 95) = false:=bne_eq_false_iff_eq.mpr tq
             clear tq
             have H':=Aside0.mk H
             clear H
             have sJ : 0 ≤ (sD : Int):=of_decide_eq_true (by first|(with_reducible assumption)|assumption)
             have sK : sD < (a0.size : Int):=of_decide_eq_true (by first|(with_reducible assumption)|assumption)
             have sP:=dA a0 sD
             replace sJ:=eq_true sJ
             replace sK:=eq_true sK
             go_wp2_with (first|((with_reducible refine aM (f:=63) rfl ?_);refine bE (some 24) rfl rfl Tryd.func63 (by kernel_rfl) rfl #[.int .u8 (bt a0 sD)] rfl (by (try simp only [List.map_toArray,List.map_cons,List.map_nil]);first|done|rfl|(simp only [List.length_drop,List.length_take];rfl)|(simp (disch:=first|omega|(simp at *;omega)) only [bF,bg,bU];rfl)) ?_;(with_reducible refine (dx.calls (bt a0 sD) false _ tF.out).mono ?_);rintro e w' ⟨rfl,⟨nd,rfl⟩⟩;refine ⟨_,rfl,?_⟩;have sM : 0 ≤ (sD : Int):=of_decide_eq_true (by first|(with_reducible assumption)|assumption);have sN : sD < (a0.size : Int):=of_decide_eq_true (by first|(with_reducible assumption)|assumption);have sZ:=dA a0 sD;replace sM:=eq_true sM;replace sN:=eq_true sN)|(go_at_call 65;(with_reducible refine (dP.calls (bt a0 sD) false _ tO.out).mono ?_);rintro e w' ⟨rfl,⟨nd,rfl⟩⟩;have sU : 0 ≤ (sD : Int):=of_decide_eq_true (by first|(with_reducible assumption)|assumption);have sV : sD < (a0.size : Int):=of_decide_eq_true (by first|(with_reducible assumption)|assumption);have tK:=dA a0 sD;replace sU:=eq_true sU;replace sV:=eq_true sV)|(go_at_call 64;(with_reducible refine (bR.calls (bt a0 sD) false _ tV.out).mono ?_);rintro e w' ⟨rfl,⟨nd,rfl⟩⟩;have tL : 0 ≤ (sD : Int):=of_decide_eq_true (by first|(with_reducible assumption)|assumption);have tN : sD < (a0.size : Int):=of_decide_eq_true (by first|(with_reducible assumption)|assumption);have tX:=dA a0 sD;replace tL:=eq_true tL;replace tN:=eq_true tN))
             go_roundg k2
             case measure=>have:=sQ.out;have:=sS.out;omega
             case rel=>exact ⟨(wrap64 (sD + 1)),(by first|rfl|(simp;done)|(simp [*];done)|exact congrArg Value.bool (bL _)|exact congrArg Value.bool (bL _).symm),H',⟨by have:=sQ.out;have:=sS.out;omega⟩,by repeat (first|exact Drawn0.refl _|apply Drawn0.step)⟩
            ·rw [if_neg tq] at H
             have c22b0 : ((bt a0 sD) == 95) = false:=beq_eq_false_iff_ne.mpr tq
             have c22b1 : ((bt a0 sD) != 95) = true:=bne_iff_ne.mpr tq
             obtain rfl:=Option.some.inj H
             have sJ : 0 ≤ (sD : Int):=of_decide_eq_true (by first|(with_reducible assumption)|assumption)
             have sK : sD < (a0.size : Int):=of_decide_eq_true (by first|(with_reducible assumption)|assumption)
             have sP:=dA a0 sD
             replace sJ:=eq_true sJ
             replace sK:=eq_true sK
             go_wp2_with (first|((with_reducible refine aM (f:=63) rfl ?_);refine bE (some 24) rfl rfl Tryd.func63 (by kernel_rfl) rfl #[.int .u8 (bt a0 sD)] rfl (by (try simp only [List.map_toArray,List.map_cons,List.map_nil]);first|done|rfl|(simp only [List.length_drop,List.length_take];rfl)|(simp (disch:=first|omega|(simp at *;omega)) only [bF,bg,bU];rfl)) ?_;(with_reducible refine (dx.calls (bt a0 sD) false _ tF.out).mono ?_);rintro e w' ⟨rfl,⟨nd,rfl⟩⟩;refine ⟨_,rfl,?_⟩;have sM : 0 ≤ (sD : Int):=of_decide_eq_true (by first|(with_reducible assumption)|assumption);have sN : sD < (a0.size : Int):=of_decide_eq_true (by first|(with_reducible assumption)|assumption);have sZ:=dA a0 sD;replace sM:=eq_true sM;replace sN:=eq_true sN)|(go_at_call 65;(with_reducible refine (dP.calls (bt a0 sD) false _ tO.out).mono ?_);rintro e w' ⟨rfl,⟨nd,rfl⟩⟩;have sU : 0 ≤ (sD : Int):=of_decide_eq_true (by first|(with_reducible assumption)|assumption);have sV : sD < (a0.size : Int):=of_decide_eq_true (by first|(with_reducible assumption)|assumption);have tK:=dA a0 sD;replace sU:=eq_true sU;replace sV:=eq_true sV)|(go_at_call 64;(with_reducible refine (bR.calls (bt a0 sD) false _ tV.out).mono ?_);rintro e w' ⟨rfl,⟨nd,rfl⟩⟩;have tL : 0 ≤ (sD : Int):=of_decide_eq_true (by first|(with_reducible assumption)|assumption);have tN : sD < (a0.size : Int):=of_decide_eq_true (by first|(with_reducible assumption)|assumption);have tX:=dA a0 sD;replace tL:=eq_true tL;replace tN:=eq_true tN))
             go_ret
             exact ⟨by first|rfl|(simp;done)|(simp [*];done),by repeat (first|exact Drawn0.refl _|apply Drawn0.step)⟩
        ·rw [if_neg c11] at H
         exact absurd H (by simp)
       ·rw [if_neg c10] at H
        exact absurd H (by simp)
      ·rw [if_neg c9] at H
       have c9b0 : decide (sD < (a0.size : Int)) = false:=decide_eq_false c9
       clear c9
       obtain rfl:=Option.some.inj H
       go_wp2
       go_ret
       exact ⟨by first|rfl|(simp;done)|(simp [*];done),by repeat (first|exact Drawn0.refl _|apply Drawn0.step)⟩
end Go.Proofs.YtpflenjhmeaeoaaDoor.GUt
