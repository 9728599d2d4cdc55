/- Written by this session's own program (wip/gen.py) out of the translation: plain Lean functions of the Go functions, and proofs that the calls come to their answers. No conditions beside those in the statements. -/
import Derived.Test.YtpmbdcljphpcnaaDoorGC2x0
import Derived.Test.YtpmbdcljphpcnaaDoorGC2x1
namespace Go.Proofs.YtpmbdcljphpcnaaDoor.GC2
open Go.RowKit Go.Proofs.YtpmbdcljphpcnaaDoorW.PrintWords Go.Proofs.YtpmbdcljphpcnaaDoorW.PrintLast Go.Proofs.YtpmbdcljphpcnaaDoorW.PrintMore
attribute [local go_sem] fO fP gI gJ fF fG fQ fT
set_option linter.unusedVariables false
set_option linter.unusedSimpArgs false
mutual
def bF.j0 : Nat → ByteArray → Bool → Option (Bool)
 | 0,_,_=>none
 | k + 1,x0,Aw=>if Aw = true then (some false) else (bF.l0 k x0 (x0.size : Int) 0)
def bF.l0 : Nat → ByteArray → Int → Int → Option (Bool)
 | 0,_,_,_=>none
 | k + 1,x0,Ac,x18=>if x18 < Ac then (if 0 ≤ x18 then (if x18 < (x0.size : Int) then ((dY.f (bt x0 x18)).bind fun zU=>(if zU = true then (bF.l0 k x0 Ac (wrap64 (x18 + 1))) else ((eY.f (bt x0 x18)).bind fun zN=>(if zN = true then (bF.l0 k x0 Ac (wrap64 (x18 + 1))) else ((dK.f (bt x0 x18)).bind fun zM=>(if zM = true then (bF.l0 k x0 Ac (wrap64 (x18 + 1))) else (if (bt x0 x18) = 95 then (bF.l0 k x0 Ac (wrap64 (x18 + 1))) else (some false)))))))) else (none)) else (none)) else (some true)
end
def bF.f (k : Nat) (a0 : ByteArray) : Option (Bool):=if a0.toList = ([] : List UInt8) then (bF.j0 k a0 true) else (if (a0.size : Int) > 63 then (bF.j0 k a0 true) else (if 0 < (a0.size : Int) then ((dK.f (bt a0 0)).bind fun zO=>(bF.j0 k a0 zO)) else (none)))
theorem bF.dX : ∀ k,(∀ y0 y1,LeO (bF.j0 k y0 y1) (bF.j0 (k + 1) y0 y1)) ∧ (∀ y0 y1 y2,LeO (bF.l0 k y0 y1 y2) (bF.l0 (k + 1) y0 y1 y2))
 | 0=>⟨fun _ _ r h=>by simp [bF.j0] at h,fun _ _ _ r h=>by simp [bF.l0] at h⟩
 | k + 1=>by
  obtain ⟨z8,ih1⟩:=bF.dX k
  refine ⟨?_,?_⟩
  ·intro y0 y1
   unfold bF.j0
   repeat' first
   | (with_reducible exact z8 _ _)
   | (with_reducible exact ih1 _ _ _)
   | (with_reducible exact LeO.refl _)
   | (with_reducible exact LeO.none _)
   | (with_reducible refine LeO.ite ?_ ?_)
   | (with_reducible refine LeO.bind ?_ (fun _=>?_))
   | exact z8 _ _
   | exact ih1 _ _ _
   | exact LeO.none _
   | refine LeO.ite ?_ ?_
   | refine LeO.bind ?_ (fun _=>?_)
  ·intro y0 y1 y2
   unfold bF.l0
   repeat' first
   | (with_reducible exact z8 _ _)
   | (with_reducible exact ih1 _ _ _)
   | (with_reducible exact LeO.refl _)
   | (with_reducible exact LeO.none _)
   | (with_reducible refine LeO.ite ?_ ?_)
   | (with_reducible refine LeO.bind ?_ (fun _=>?_))
   | exact z8 _ _
   | exact ih1 _ _ _
   | exact LeO.none _
   | refine LeO.ite ?_ ?_
   | refine LeO.bind ?_ (fun _=>?_)
theorem bF.mono : ∀ a0 k,LeO (bF.f k a0) (bF.f (k + 1) a0):=by
 intro a0 k
 obtain ⟨z8,ih1⟩:=bF.dX k
 unfold bF.f
 repeat' first
   | (with_reducible exact z8 _ _)
   | (with_reducible exact ih1 _ _ _)
   | (with_reducible exact LeO.refl _)
   | (with_reducible exact LeO.none _)
   | (with_reducible refine LeO.ite ?_ ?_)
   | (with_reducible refine LeO.bind ?_ (fun _=>?_))
   | exact z8 _ _
   | exact ih1 _ _ _
   | exact LeO.none _
   | refine LeO.ite ?_ ?_
   | refine LeO.bind ?_ (fun _=>?_)
set_option maxHeartbeats 8000000 in
set_option maxRecDepth 100000 in
theorem bF.calls (k : Nat) (a0 : ByteArray) (r : Bool) (w : World) (h : bF.f k a0 = some r) :
  Calls Tryd.prog 63 #[.string a0] w fun e w'=>e = .returned (.bool r) ∧ Drawn0 w w':=by
 have H : (if a0.toList = ([] : List UInt8) then (bF.j0 k a0 true) else (if (a0.size : Int) > 63 then (bF.j0 k a0 true) else (if 0 < (a0.size : Int) then ((dK.f (bt a0 0)).bind fun zO=>(bF.j0 k a0 zO)) else (none)))) = some r:=h
 clear h
 have Al:=Aside0.mk H
 clear H
 go_enter Tryd.func63,Tryd.ntmps63
 go_upto_region 1 with (fail)
 go_cut [15] (fun v15 wc=>∃ (kq : Nat) (zP : Bool),v15 = .bool zP ∧ Aside0 (bF.j0 kq a0 zP = some r) ∧ Aside0 (kq ≤ k) ∧ Drawn0 w wc)
 case first =>
  have H:=Al.out
  clear Al
  by_cases c3 : a0.toList = ([] : List UInt8)
  ·rw [if_pos c3] at H
   have c3b0 : (a0.toList == ([] : List UInt8)) = true:=beq_iff_eq.mpr c3
   have c3b1 : (a0.toList != ([] : List UInt8)) = false:=bne_eq_false_iff_eq.mpr c3
   clear c3
   (first|rw [c3b0]|(simp only [bI,bN];rw [c3b0])|skip)
   have H':=Aside0.mk H
   clear H
   go_wp2
   go_meet
   case rel=>exact ⟨_,(true),(by first|rfl|(simp;done)|(simp [*];done)),H',⟨by first|omega|exact Nat.le_refl _⟩,by repeat (first|exact Drawn0.refl _|apply Drawn0.step)⟩
  ·rw [if_neg c3] at H
   have c3b0 : (a0.toList == ([] : List UInt8)) = false:=beq_eq_false_iff_ne.mpr c3
   have c3b1 : (a0.toList != ([] : List UInt8)) = true:=bne_iff_ne.mpr c3
   (first|rw [c3b0]|(simp only [bI,bN];rw [c3b0])|skip)
   by_cases c4 : (a0.size : Int) > 63
   ·rw [if_pos c4] at H
    have c4b0 : decide (63 < (a0.size : Int)) = true:=decide_eq_true c4
    have c4b1 : decide (63 < a0.size) = true:=decide_eq_true (by omega)
    clear c4
    have H':=Aside0.mk H
    clear H
    go_wp2
    go_meet
    case rel=>exact ⟨_,(true),(by first|rfl|(simp;done)|(simp [*];done)),H',⟨by first|omega|exact Nat.le_refl _⟩,by repeat (first|exact Drawn0.refl _|apply Drawn0.step)⟩
   ·rw [if_neg c4] at H
    have c4b0 : decide (63 < (a0.size : Int)) = false:=decide_eq_false c4
    have c4b1 : decide (63 < a0.size) = false:=decide_eq_false (by omega)
    clear c4
    by_cases c5 : 0 < (a0.size : Int)
    ·rw [if_pos c5] at H
     have c5b0 : decide (0 < (a0.size : Int)) = true:=decide_eq_true c5
     have c5b1 : decide (0 < a0.size) = true:=decide_eq_true (by omega)
     clear c5
     replace H:=Option.bind_eq_some_iff.mp H
     obtain ⟨zO,Ar,H⟩:=H
     replace H : (bF.j0 k a0 zO) = some r:=H
     have A7:=Aside0.mk Ar
     clear Ar
     have H':=Aside0.mk H
     clear H
     have p6 : 0 ≤ (0 : Int):=(by omega)
     have q6 : 0 < a0.size:=(by have : (0 : Int) < (a0.size : Int):=of_decide_eq_true (by first|(with_reducible assumption)|assumption);omega)
     have hx6 : ∀ h : 0 < a0.size,((a0[0]'h).toNat : Int) = bt a0 0:=dG a0 0
     clear p6
     have Av : (0 < (a0.size : Int)) = True:=eq_true (of_decide_eq_true (by first|(with_reducible assumption)|assumption))
     replace q6:=eq_true q6
     go_wp2_with (first|(go_at_call 74;(with_reducible refine (dK.calls (bt a0 0) zO _ A7.out).mono ?_);rintro e w' ⟨rfl,⟨nd,rfl⟩⟩))
     go_meet
     case rel=>exact ⟨_,(zO),(by first|rfl|(simp;done)|(simp [*];done)),H',⟨by first|omega|exact Nat.le_refl _⟩,by repeat (first|exact Drawn0.refl _|apply Drawn0.step)⟩
    ·rw [if_neg c5] at H
     exact absurd H (by simp)
 case rest =>
  clear Al
  try clear p2
  try clear c3
  try clear c3b0
  try clear c3b1
  try clear c4
  try clear c4b0
  try clear c4b1
  try clear c5
  try clear c5b0
  try clear c5b1
  try clear c6
  try clear p6
  try clear q6
  try clear hx6
  try clear Av
  try clear p6
  try clear q6
  obtain ⟨kq,zP,rfl,HA,zW,⟨Ay,rfl⟩⟩:=hcut
  cases kq with
  | zero=>exact absurd HA.out (by simp [bF.j0])
  | succ Am =>
   have H:=HA.out
   clear HA
   simp only [bF.j0] at H
   by_cases c8 : zP = true
   ·subst c8
    have H1 : (some false) = some r:=by rw [if_pos rfl] at H;exact H
    clear H
    have H:=H1
    clear H1
    obtain rfl:=Option.some.inj H
    go_wp2
    go_ret
    exact ⟨by first|rfl|(simp;done)|(simp [*];done),by repeat (first|exact Drawn0.refl _|apply Drawn0.step)⟩
   ·replace c8:=Bool.eq_false_iff.mpr c8
    subst c8
    have H1 : (bF.l0 Am a0 (a0.size : Int) 0) = some r:=by rw [if_neg (show ¬ (false = true) by decide)] at H;exact H
    clear H
    have H:=H1
    clear H1
    have H':=Aside0.mk H
    clear H
    go_wp2
    go_loopg [18] Am (fun kq v18 w'=>∃ (zL : Int),v18 = .int .i64 zL ∧ Aside0 (bF.l0 kq a0 (a0.size : Int) zL = some r) ∧ Aside0 (kq ≤ Am) ∧ Drawn0 w w')
    case atStart=>exact ⟨(0),(by first|rfl|(simp;done)|(simp [*];done)),H',⟨Nat.le_refl _⟩,by repeat (first|exact Drawn0.refl _|apply Drawn0.step)⟩
    case round =>
     clear H'
     try clear c1
     try clear p2
     try clear c3
     try clear c3b0
     try clear c3b1
     try clear c4
     try clear c4b0
     try clear c4b1
     try clear c5
     try clear c5b0
     try clear c5b1
     try clear c6
     try clear p6
     try clear q6
     try clear hx6
     try clear Av
     try clear c8
     try clear p2
     try clear p6
     try clear q6
     obtain ⟨zL,rfl,HA,zX,⟨m2,rfl⟩⟩:=hrel
     cases gk with
     | zero=>exact absurd HA.out (by simp [bF.l0])
     | succ k2 =>
      have H:=HA.out
      clear HA
      simp only [bF.l0] at H
      by_cases c9 : zL < (a0.size : Int)
      ·rw [if_pos c9] at H
       have c9b0 : decide (zL < (a0.size : Int)) = true:=decide_eq_true c9
       clear c9
       by_cases c10 : 0 ≤ zL
       ·rw [if_pos c10] at H
        have c10b0 : decide (0 ≤ zL) = true:=decide_eq_true c10
        clear c10
        by_cases c11 : zL < (a0.size : Int)
        ·rw [if_pos c11] at H
         have c11b0 : decide (zL < (a0.size : Int)) = true:=decide_eq_true c11
         clear c11
         replace H:=Option.bind_eq_some_iff.mp H
         obtain ⟨zU,Ad,H⟩:=H
         replace H : (if zU = true then (bF.l0 k2 a0 (a0.size : Int) (wrap64 (zL + 1))) else ((eY.f (bt a0 zL)).bind fun zN=>(if zN = true then (bF.l0 k2 a0 (a0.size : Int) (wrap64 (zL + 1))) else ((dK.f (bt a0 zL)).bind fun zM=>(if zM = true then (bF.l0 k2 a0 (a0.size : Int) (wrap64 (zL + 1))) else (if (bt a0 zL) = 95 then (bF.l0 k2 a0 (a0.size : Int) (wrap64 (zL + 1))) else (some false))))))) = some r:=H
         have Ae:=Aside0.mk Ad
         clear Ad
         by_cases c14 : zU = true
         ·subst c14
          have H1 : (bF.l0 k2 a0 (a0.size : Int) (wrap64 (zL + 1))) = some r:=by rw [if_pos rfl] at H;exact H
          clear H
          have H:=H1
          clear H1
          have H':=Aside0.mk H
          clear H
          have zQ : 0 ≤ (zL : Int):=of_decide_eq_true (by first|(with_reducible assumption)|assumption)
          have zR : zL < (a0.size : Int):=of_decide_eq_true (by first|(with_reducible assumption)|assumption)
          have zV:=dG a0 zL
          replace zQ:=eq_true zQ
          replace zR:=eq_true zR
          go_wp2_with (first|((with_reducible refine bA (f:=73) rfl ?_);refine cO (some 24) rfl rfl Tryd.func73 (by kernel_rfl) rfl #[.int .u8 (bt a0 zL)] rfl (by (try simp only [List.map_toArray,List.map_cons,List.map_nil]);first|done|rfl|(simp only [List.length_drop,List.length_take];rfl)|(simp (disch:=first|omega|(simp at *;omega)) only [bY,bJ,dF];rfl)) ?_;(with_reducible refine (dY.calls (bt a0 zL) true _ Ae.out).mono ?_);rintro e w' ⟨rfl,⟨nd,rfl⟩⟩;refine ⟨_,rfl,?_⟩))
          go_roundg k2
          case measure=>have:=zW.out;have:=zX.out;omega
          case rel=>exact ⟨(wrap64 (zL + 1)),(by first|rfl|(simp;done)|(simp [*];done)),H',⟨by have:=zW.out;have:=zX.out;omega⟩,by repeat (first|exact Drawn0.refl _|apply Drawn0.step)⟩
         ·replace c14:=Bool.eq_false_iff.mpr c14
          subst c14
          have H1 : ((eY.f (bt a0 zL)).bind fun zN=>(if zN = true then (bF.l0 k2 a0 (a0.size : Int) (wrap64 (zL + 1))) else ((dK.f (bt a0 zL)).bind fun zM=>(if zM = true then (bF.l0 k2 a0 (a0.size : Int) (wrap64 (zL + 1))) else (if (bt a0 zL) = 95 then (bF.l0 k2 a0 (a0.size : Int) (wrap64 (zL + 1))) else (some false)))))) = some r:=by rw [if_neg (show ¬ (false = true) by decide)] at H;exact H
          clear H
          have H:=H1
          clear H1
          replace H:=Option.bind_eq_some_iff.mp H
          obtain ⟨zN,Af,H⟩:=H
          replace H : (if zN = true then (bF.l0 k2 a0 (a0.size : Int) (wrap64 (zL + 1))) else ((dK.f (bt a0 zL)).bind fun zM=>(if zM = true then (bF.l0 k2 a0 (a0.size : Int) (wrap64 (zL + 1))) else (if (bt a0 zL) = 95 then (bF.l0 k2 a0 (a0.size : Int) (wrap64 (zL + 1))) else (some false))))) = some r:=H
          have Ak:=Aside0.mk Af
          clear Af
          by_cases c17 : zN = true
          ·subst c17
           have H1 : (bF.l0 k2 a0 (a0.size : Int) (wrap64 (zL + 1))) = some r:=by rw [if_pos rfl] at H;exact H
           clear H
           have H:=H1
           clear H1
           have H':=Aside0.mk H
           clear H
           have zQ : 0 ≤ (zL : Int):=of_decide_eq_true (by first|(with_reducible assumption)|assumption)
           have zR : zL < (a0.size : Int):=of_decide_eq_true (by first|(with_reducible assumption)|assumption)
           have zV:=dG a0 zL
           replace zQ:=eq_true zQ
           replace zR:=eq_true zR
           go_wp2_with (first|((with_reducible refine bA (f:=73) rfl ?_);refine cO (some 24) rfl rfl Tryd.func73 (by kernel_rfl) rfl #[.int .u8 (bt a0 zL)] rfl (by (try simp only [List.map_toArray,List.map_cons,List.map_nil]);first|done|rfl|(simp only [List.length_drop,List.length_take];rfl)|(simp (disch:=first|omega|(simp at *;omega)) only [bY,bJ,dF];rfl)) ?_;(with_reducible refine (dY.calls (bt a0 zL) false _ Ae.out).mono ?_);rintro e w' ⟨rfl,⟨nd,rfl⟩⟩;refine ⟨_,rfl,?_⟩;have zS : 0 ≤ (zL : Int):=of_decide_eq_true (by first|(with_reducible assumption)|assumption);have zT : zL < (a0.size : Int):=of_decide_eq_true (by first|(with_reducible assumption)|assumption);have Aa:=dG a0 zL;replace zS:=eq_true zS;replace zT:=eq_true zT)|(go_at_call 75;(with_reducible refine (eY.calls (bt a0 zL) true _ Ak.out).mono ?_);rintro e w' ⟨rfl,⟨nd,rfl⟩⟩))
           go_roundg k2
           case measure=>have:=zW.out;have:=zX.out;omega
           case rel=>exact ⟨(wrap64 (zL + 1)),(by first|rfl|(simp;done)|(simp [*];done)),H',⟨by have:=zW.out;have:=zX.out;omega⟩,by repeat (first|exact Drawn0.refl _|apply Drawn0.step)⟩
          ·replace c17:=Bool.eq_false_iff.mpr c17
           subst c17
           have H1 : ((dK.f (bt a0 zL)).bind fun zM=>(if zM = true then (bF.l0 k2 a0 (a0.size : Int) (wrap64 (zL + 1))) else (if (bt a0 zL) = 95 then (bF.l0 k2 a0 (a0.size : Int) (wrap64 (zL + 1))) else (some false)))) = some r:=by rw [if_neg (show ¬ (false = true) by decide)] at H;exact H
           clear H
           have H:=H1
           clear H1
           replace H:=Option.bind_eq_some_iff.mp H
           obtain ⟨zM,Ag,H⟩:=H
           replace H : (if zM = true then (bF.l0 k2 a0 (a0.size : Int) (wrap64 (zL + 1))) else (if (bt a0 zL) = 95 then (bF.l0 k2 a0 (a0.size : Int) (wrap64 (zL + 1))) else (some false))) = some r:=H
           have Ap:=Aside0.mk Ag
           clear Ag
           by_cases c20 : zM = true
           ·subst c20
            have H1 : (bF.l0 k2 a0 (a0.size : Int) (wrap64 (zL + 1))) = some r:=by rw [if_pos rfl] at H;exact H
            clear H
            have H:=H1
            clear H1
            have H':=Aside0.mk H
            clear H
            have zQ : 0 ≤ (zL : Int):=of_decide_eq_true (by first|(with_reducible assumption)|assumption)
            have zR : zL < (a0.size : Int):=of_decide_eq_true (by first|(with_reducible assumption)|assumption)
            have zV:=dG a0 zL
            replace zQ:=eq_true zQ
            replace zR:=eq_true zR
            go_wp2_with (first|((with_reducible refine bA (f:=73) rfl ?_);refine cO (some 24) rfl rfl Tryd.func73 (by kernel_rfl) rfl #[.int .u8 (bt a0 zL)] rfl (by (try simp only [List.map_toArray,List.map_cons,List.map_nil]);first|done|rfl|(simp only [List.length_drop,List.length_take];rfl)|(simp (disch:=first|omega|(simp at *;omega)) only [bY,bJ,dF];rfl)) ?_;(with_reducible refine (dY.calls (bt a0 zL) false _ Ae.out).mono ?_);rintro e w' ⟨rfl,⟨nd,rfl⟩⟩;refine ⟨_,rfl,?_⟩;have zS : 0 ≤ (zL : Int):=of_decide_eq_true (by first|(with_reducible assumption)|assumption);have zT : zL < (a0.size : Int):=of_decide_eq_true (by first|(with_reducible assumption)|assumption);have Aa:=dG a0 zL;replace zS:=eq_true zS;replace zT:=eq_true zT)|(go_at_call 75;(with_reducible refine (eY.calls (bt a0 zL) false _ Ak.out).mono ?_);rintro e w' ⟨rfl,⟨nd,rfl⟩⟩;have zY : 0 ≤ (zL : Int):=of_decide_eq_true (by first|(with_reducible assumption)|assumption);have zZ : zL < (a0.size : Int):=of_decide_eq_true (by first|(with_reducible assumption)|assumption);have Ah:=dG a0 zL;replace zY:=eq_true zY;replace zZ:=eq_true zZ)|(go_at_call 74;(with_reducible refine (dK.calls (bt a0 zL) true _ Ap.out).mono ?_);rintro e w' ⟨rfl,⟨nd,rfl⟩⟩))
            go_roundg k2
            case measure=>have:=zW.out;have:=zX.out;omega
            case rel=>exact ⟨(wrap64 (zL + 1)),(by first|rfl|(simp;done)|(simp [*];done)),H',⟨by have:=zW.out;have:=zX.out;omega⟩,by repeat (first|exact Drawn0.refl _|apply Drawn0.step)⟩
           ·replace c20:=Bool.eq_false_iff.mpr c20
            subst c20
            have H1 : (if (bt a0 zL) = 95 then (bF.l0 k2 a0 (a0.size : Int) (wrap64 (zL + 1))) else (some false)) = some r:=by rw [if_neg (show ¬ (false = true) by decide)] at H;exact H
            clear H
            have H:=H1
            clear H1
            by_cases Ab : (bt a0 zL) = 95
            ·rw [if_pos Ab] at H
             have c22b0 : ((bt a0 zL) == 95) = true:=beq_iff_eq.mpr Ab
             have c22b1 : ((bt a0 zL) != 95) = false:=bne_eq_false_iff_eq.mpr Ab
             clear Ab
             have H':=Aside0.mk H
             clear H
             have zQ : 0 ≤ (zL : Int):=of_decide_eq_true (by first|(with_reducible assumption)|assumption)
             have zR : zL < (a0.size : Int):=of_decide_eq_true (by first|(with_reducible assumption)|assumption)
             have zV:=dG a0 zL
             replace zQ:=eq_true zQ
             replace zR:=eq_true zR
             go_wp2_with (first|((with_reducible refine bA (f:=73) rfl ?_);refine cO (some 24) rfl rfl Tryd.func73 (by kernel_rfl) rfl #[.int .u8 (bt a0 zL)] rfl (by (try simp only [List.map_toArray,List.map_cons,List.map_nil]);first|done|rfl|(simp only [List.length_drop,List.length_take];rfl)|(simp (disch:=first|omega|(simp at *;omega)) only [bY,bJ,dF];rfl)) ?_;(with_reducible refine (dY.calls (bt a0 zL) false _ Ae.out).mono ?_);rintro e w' ⟨rfl,⟨nd,rfl⟩⟩;refine ⟨_,rfl,?_⟩;have zS : 0 ≤ (zL : Int):=of_decide_eq_true (by first|(with_reducible assumption)|assumption);have zT : zL < (a0.size : Int):=of_decide_eq_true (by first|(with_reducible assumption)|assumption);have Aa:=dG a0 zL;replace zS:=eq_true zS;replace zT:=eq_true zT)|(go_at_call 75;(with_reducible refine (eY.calls (bt a0 zL) false _ Ak.out).mono ?_);rintro e w' ⟨rfl,⟨nd,rfl⟩⟩;have zY : 0 ≤ (zL : Int):=of_decide_eq_true (by first|(with_reducible assumption)|assumption);have zZ : zL < (a0.size : Int):=of_decide_eq_true (by first|(with_reducible assumption)|assumption);have Ah:=dG a0 zL;replace zY:=eq_true zY;replace zZ:=eq_true zZ)|(go_at_call 74;(with_reducible refine (dK.calls (bt a0 zL) false _ Ap.out).mono ?_);rintro e w' ⟨rfl,⟨nd,rfl⟩⟩;have Ai : 0 ≤ (zL : Int):=of_decide_eq_true (by first|(with_reducible assumption)|assumption);have Aj : zL < (a0.size : Int):=of_decide_eq_true (by first|(with_reducible assumption)|assumption);have Aq:=dG a0 zL;replace Ai:=eq_true Ai;replace Aj:=eq_true Aj))
             go_roundg k2
             case measure=>have:=zW.out;have:=zX.out;omega
             case rel=>exact ⟨(wrap64 (zL + 1)),(by first|rfl|(simp;done)|(simp [*];done)),H',⟨by have:=zW.out;have:=zX.out;omega⟩,by repeat (first|exact Drawn0.refl _|apply Drawn0.step)⟩
            ·rw [if_neg Ab] at H
             have c22b0 : ((bt a0 zL) == 95) = false:=beq_eq_false_iff_ne.mpr Ab
             have c22b1 : ((bt a0 zL) != 95) = true:=bne_iff_ne.mpr Ab
             obtain rfl:=Option.some.inj H
             have zQ : 0 ≤ (zL : Int):=of_decide_eq_true (by first|(with_reducible assumption)|assumption)
             have zR : zL < (a0.size : Int):=of_decide_eq_true (by first|(with_reducible assumption)|assumption)
             have zV:=dG a0 zL
             replace zQ:=eq_true zQ
             replace zR:=eq_true zR
             go_wp2_with (first|((with_reducible refine bA (f:=73) rfl ?_);refine cO (some 24) rfl rfl Tryd.func73 (by kernel_rfl) rfl #[.int .u8 (bt a0 zL)] rfl (by (try simp only [List.map_toArray,List.map_cons,List.map_nil]);first|done|rfl|(simp only [List.length_drop,List.length_take];rfl)|(simp (disch:=first|omega|(simp at *;omega)) only [bY,bJ,dF];rfl)) ?_;(with_reducible refine (dY.calls (bt a0 zL) false _ Ae.out).mono ?_);rintro e w' ⟨rfl,⟨nd,rfl⟩⟩;refine ⟨_,rfl,?_⟩;have zS : 0 ≤ (zL : Int):=of_decide_eq_true (by first|(with_reducible assumption)|assumption);have zT : zL < (a0.size : Int):=of_decide_eq_true (by first|(with_reducible assumption)|assumption);have Aa:=dG a0 zL;replace zS:=eq_true zS;replace zT:=eq_true zT)|(go_at_call 75;(with_reducible refine (eY.calls (bt a0 zL) false _ Ak.out).mono ?_);rintro e w' ⟨rfl,⟨nd,rfl⟩⟩;have zY : 0 ≤ (zL : Int):=of_decide_eq_true (by first|(with_reducible assumption)|assumption);have zZ : zL < (a0.size : Int):=of_decide_eq_true (by first|(with_reducible assumption)|assumption);have Ah:=dG a0 zL;replace zY:=eq_true zY;replace zZ:=eq_true zZ)|(go_at_call 74;(with_reducible refine (dK.calls (bt a0 zL) false _ Ap.out).mono ?_);rintro e w' ⟨rfl,⟨nd,rfl⟩⟩;have Ai : 0 ≤ (zL : Int):=of_decide_eq_true (by first|(with_reducible assumption)|assumption);have Aj : zL < (a0.size : Int):=of_decide_eq_true (by first|(with_reducible assumption)|assumption);have Aq:=dG a0 zL;replace Ai:=eq_true Ai;replace Aj:=eq_true Aj))
             go_ret
             exact ⟨by first|rfl|(simp;done)|(simp [*];done),by repeat (first|exact Drawn0.refl _|apply Drawn0.step)⟩
        ·rw [if_neg c11] at H
         exact absurd H (by simp)
       ·rw [if_neg c10] at H
        exact absurd H (by simp)
      ·rw [if_neg c9] at H
       have c9b0 : decide (zL < (a0.size : Int)) = false:=decide_eq_false c9
       clear c9
       obtain rfl:=Option.some.inj H
       go_wp2
       go_ret
       exact ⟨by first|rfl|(simp;done)|(simp [*];done),by repeat (first|exact Drawn0.refl _|apply Drawn0.step)⟩
end Go.Proofs.YtpmbdcljphpcnaaDoor.GC2
