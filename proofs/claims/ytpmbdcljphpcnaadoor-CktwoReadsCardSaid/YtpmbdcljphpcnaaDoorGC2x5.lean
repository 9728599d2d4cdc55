/- Written by this session's own program (wip/gen.py) out of the translation: plain Lean functions of the Go functions, and proofs that the calls come to their answers. No conditions beside those in the statements. -/
import Derived.Test.YtpmbdcljphpcnaaDoorGC2x0
import Derived.Test.YtpmbdcljphpcnaaDoorGC2x1
import Derived.Test.YtpmbdcljphpcnaaDoorGC2Index
namespace Go.Proofs.YtpmbdcljphpcnaaDoor.GC2
open Go.RowKit Go.Proofs.YtpmbdcljphpcnaaDoorW.PrintWords Go.Proofs.YtpmbdcljphpcnaaDoorW.PrintLast Go.Proofs.YtpmbdcljphpcnaaDoorW.PrintMore
attribute [local go_sem] fO fP gI gJ fF fG fQ fT
set_option linter.unusedVariables false
set_option linter.unusedSimpArgs false
def bS.l0 : Nat → ByteArray → Int → Int → Option (Bool)
 | 0,_,_,_=>none
 | k + 1,x0,x6,x7=>if x7 < x6 then (if 0 ≤ x7 then (if x7 < (x0.size : Int) then (if (bt x0 x7) < 97 then (if (bt x0 x7) < 48 then ((strings_IndexByte.f (⟨#[46,95,45,47]⟩ : ByteArray) (bt x0 x7)).bind fun t124=>(if t124 < 0 then (some false) else (bS.l0 k x0 x6 (wrap64 (x7 + 1))))) else (if (bt x0 x7) > 57 then ((strings_IndexByte.f (⟨#[46,95,45,47]⟩ : ByteArray) (bt x0 x7)).bind fun zQ=>(if zQ < 0 then (some false) else (bS.l0 k x0 x6 (wrap64 (x7 + 1))))) else (bS.l0 k x0 x6 (wrap64 (x7 + 1))))) else (if (bt x0 x7) > 122 then (if (bt x0 x7) < 48 then ((strings_IndexByte.f (⟨#[46,95,45,47]⟩ : ByteArray) (bt x0 x7)).bind fun zR=>(if zR < 0 then (some false) else (bS.l0 k x0 x6 (wrap64 (x7 + 1))))) else (if (bt x0 x7) > 57 then ((strings_IndexByte.f (⟨#[46,95,45,47]⟩ : ByteArray) (bt x0 x7)).bind fun t127=>(if t127 < 0 then (some false) else (bS.l0 k x0 x6 (wrap64 (x7 + 1))))) else (bS.l0 k x0 x6 (wrap64 (x7 + 1))))) else (bS.l0 k x0 x6 (wrap64 (x7 + 1))))) else (none)) else (none)) else (if x0.toList = ([] : List UInt8) then (some false) else (some (decide ((x0.size : Int) ≤ 64))))
def bS.f (k : Nat) (a0 : ByteArray) : Option (Bool):=bS.l0 k a0 (a0.size : Int) 0
theorem bS.dX : ∀ k,(∀ y0 y1 y2,LeO (bS.l0 k y0 y1 y2) (bS.l0 (k + 1) y0 y1 y2))
 | 0=>fun _ _ _ r h=>by simp [bS.l0] at h
 | k + 1=>by
  have zW:=bS.dX k
  ·intro y0 y1 y2
   unfold bS.l0
   repeat' first
   | (with_reducible exact zW _ _ _)
   | (with_reducible exact LeO.refl _)
   | (with_reducible exact LeO.none _)
   | (with_reducible refine LeO.ite ?_ ?_)
   | (with_reducible refine LeO.bind ?_ (fun _=>?_))
   | exact zW _ _ _
   | exact LeO.none _
   | refine LeO.ite ?_ ?_
   | refine LeO.bind ?_ (fun _=>?_)
theorem bS.mono : ∀ a0 k,LeO (bS.f k a0) (bS.f (k + 1) a0):=by
 intro a0 k
 have zW:=bS.dX k
 unfold bS.f
 repeat' first
   | (with_reducible exact zW _ _ _)
   | (with_reducible exact LeO.refl _)
   | (with_reducible exact LeO.none _)
   | (with_reducible refine LeO.ite ?_ ?_)
   | (with_reducible refine LeO.bind ?_ (fun _=>?_))
   | exact zW _ _ _
   | exact LeO.none _
   | refine LeO.ite ?_ ?_
   | refine LeO.bind ?_ (fun _=>?_)
set_option maxHeartbeats 8000000 in
set_option maxRecDepth 100000 in
theorem bS.calls (k : Nat) (a0 : ByteArray) (r : Bool) (w : World) (h : bS.f k a0 = some r) :
  Calls Tryd.prog 18 #[.string a0] w fun e w'=>e = .returned (.bool r) ∧ Drawn0 w w':=by
 have H : (bS.l0 k a0 (a0.size : Int) 0) = some r:=h
 clear h
 have H':=Aside0.mk H
 clear H
 go_enter Tryd.func18,Tryd.ntmps18
 go_wp2
 go_loopg [7] k (fun kq v7 w'=>∃ (zM : Int),v7 = .int .i64 zM ∧ Aside0 (bS.l0 kq a0 (a0.size : Int) zM = some r) ∧ Aside0 (kq ≤ k) ∧ Drawn0 w w')
 case atStart=>exact ⟨(0),(by first|rfl|(simp;done)|(simp [*];done)),H',⟨Nat.le_refl _⟩,by repeat (first|exact Drawn0.refl _|apply Drawn0.step)⟩
 case round =>
  clear H'
  try clear c1
  obtain ⟨zM,rfl,HA,zS,⟨m1,rfl⟩⟩:=hrel
  cases gk with
  | zero=>exact absurd HA.out (by simp [bS.l0])
  | succ k1 =>
   have H:=HA.out
   clear HA
   simp only [bS.l0] at H
   by_cases c2 : zM < (a0.size : Int)
   ·rw [if_pos c2] at H
    have c2b0 : decide (zM < (a0.size : Int)) = true:=decide_eq_true c2
    clear c2
    by_cases c3 : 0 ≤ zM
    ·rw [if_pos c3] at H
     have c3b0 : decide (0 ≤ zM) = true:=decide_eq_true c3
     clear c3
     by_cases c4 : zM < (a0.size : Int)
     ·rw [if_pos c4] at H
      have c4b0 : decide (zM < (a0.size : Int)) = true:=decide_eq_true c4
      clear c4
      by_cases c6 : (bt a0 zM) < 97
      ·rw [if_pos c6] at H
       have c6b0 : decide ((bt a0 zM) < 97) = true:=decide_eq_true c6
       clear c6
       by_cases c7 : (bt a0 zM) < 48
       ·rw [if_pos c7] at H
        have c7b0 : decide ((bt a0 zM) < 48) = true:=decide_eq_true c7
        clear c7
        replace H:=Option.bind_eq_some_iff.mp H
        obtain ⟨t124,AJ,H⟩:=H
        replace H : (if t124 < 0 then (some false) else (bS.l0 k1 a0 (a0.size : Int) (wrap64 (zM + 1)))) = some r:=H
        have A8:=Aside0.mk AJ
        clear AJ
        by_cases c9 : t124 < 0
        ·rw [if_pos c9] at H
         have c9b0 : decide (t124 < 0) = true:=decide_eq_true c9
         clear c9
         obtain rfl:=Option.some.inj H
         have p5 : 0 ≤ (zM : Int):=of_decide_eq_true (by first|(with_reducible assumption)|assumption)
         have q5 : zM < (a0.size : Int):=of_decide_eq_true (by first|(with_reducible assumption)|assumption)
         have hx5:=dG a0 zM
         replace p5:=eq_true p5
         replace q5:=eq_true q5
         go_wp2_with (first|(go_at_call 47;(with_reducible refine (strings_IndexByte.calls (⟨#[46,95,45,47]⟩ : ByteArray) (bt a0 zM) t124 _ A8.out).mono ?_);rintro e w' ⟨rfl,⟨nd,rfl⟩⟩))
         go_ret
         exact ⟨by first|rfl|(simp;done)|(simp [*];done),by repeat (first|exact Drawn0.refl _|apply Drawn0.step)⟩
        ·rw [if_neg c9] at H
         have c9b0 : decide (t124 < 0) = false:=decide_eq_false c9
         clear c9
         have H':=Aside0.mk H
         clear H
         have p5 : 0 ≤ (zM : Int):=of_decide_eq_true (by first|(with_reducible assumption)|assumption)
         have q5 : zM < (a0.size : Int):=of_decide_eq_true (by first|(with_reducible assumption)|assumption)
         have hx5:=dG a0 zM
         replace p5:=eq_true p5
         replace q5:=eq_true q5
         go_wp2_with (first|(go_at_call 47;(with_reducible refine (strings_IndexByte.calls (⟨#[46,95,45,47]⟩ : ByteArray) (bt a0 zM) t124 _ A8.out).mono ?_);rintro e w' ⟨rfl,⟨nd,rfl⟩⟩))
         go_roundg k1
         case measure=>have:=zS.out;omega
         case rel=>exact ⟨(wrap64 (zM + 1)),(by first|rfl|(simp;done)|(simp [*];done)),H',⟨by have:=zS.out;omega⟩,by repeat (first|exact Drawn0.refl _|apply Drawn0.step)⟩
       ·rw [if_neg c7] at H
        have c7b0 : decide ((bt a0 zM) < 48) = false:=decide_eq_false c7
        clear c7
        by_cases c10 : (bt a0 zM) > 57
        ·rw [if_pos c10] at H
         have c10b0 : decide (57 < (bt a0 zM)) = true:=decide_eq_true c10
         clear c10
         replace H:=Option.bind_eq_some_iff.mp H
         obtain ⟨zQ,Ag,H⟩:=H
         replace H : (if zQ < 0 then (some false) else (bS.l0 k1 a0 (a0.size : Int) (wrap64 (zM + 1)))) = some r:=H
         have AL:=Aside0.mk Ag
         clear Ag
         by_cases c12 : zQ < 0
         ·rw [if_pos c12] at H
          have c12b0 : decide (zQ < 0) = true:=decide_eq_true c12
          clear c12
          obtain rfl:=Option.some.inj H
          have p5 : 0 ≤ (zM : Int):=of_decide_eq_true (by first|(with_reducible assumption)|assumption)
          have q5 : zM < (a0.size : Int):=of_decide_eq_true (by first|(with_reducible assumption)|assumption)
          have hx5:=dG a0 zM
          replace p5:=eq_true p5
          replace q5:=eq_true q5
          go_wp2_with (first|(go_at_call 47;(with_reducible refine (strings_IndexByte.calls (⟨#[46,95,45,47]⟩ : ByteArray) (bt a0 zM) zQ _ AL.out).mono ?_);rintro e w' ⟨rfl,⟨nd,rfl⟩⟩))
          go_ret
          exact ⟨by first|rfl|(simp;done)|(simp [*];done),by repeat (first|exact Drawn0.refl _|apply Drawn0.step)⟩
         ·rw [if_neg c12] at H
          have c12b0 : decide (zQ < 0) = false:=decide_eq_false c12
          clear c12
          have H':=Aside0.mk H
          clear H
          have p5 : 0 ≤ (zM : Int):=of_decide_eq_true (by first|(with_reducible assumption)|assumption)
          have q5 : zM < (a0.size : Int):=of_decide_eq_true (by first|(with_reducible assumption)|assumption)
          have hx5:=dG a0 zM
          replace p5:=eq_true p5
          replace q5:=eq_true q5
          go_wp2_with (first|(go_at_call 47;(with_reducible refine (strings_IndexByte.calls (⟨#[46,95,45,47]⟩ : ByteArray) (bt a0 zM) zQ _ AL.out).mono ?_);rintro e w' ⟨rfl,⟨nd,rfl⟩⟩))
          go_roundg k1
          case measure=>have:=zS.out;omega
          case rel=>exact ⟨(wrap64 (zM + 1)),(by first|rfl|(simp;done)|(simp [*];done)),H',⟨by have:=zS.out;omega⟩,by repeat (first|exact Drawn0.refl _|apply Drawn0.step)⟩
        ·rw [if_neg c10] at H
         have c10b0 : decide (57 < (bt a0 zM)) = false:=decide_eq_false c10
         clear c10
         have H':=Aside0.mk H
         clear H
         have p5 : 0 ≤ (zM : Int):=of_decide_eq_true (by first|(with_reducible assumption)|assumption)
         have q5 : zM < (a0.size : Int):=of_decide_eq_true (by first|(with_reducible assumption)|assumption)
         have hx5:=dG a0 zM
         replace p5:=eq_true p5
         replace q5:=eq_true q5
         go_wp2
         go_roundg k1
         case measure=>have:=zS.out;omega
         case rel=>exact ⟨(wrap64 (zM + 1)),(by first|rfl|(simp;done)|(simp [*];done)),H',⟨by have:=zS.out;omega⟩,by repeat (first|exact Drawn0.refl _|apply Drawn0.step)⟩
      ·rw [if_neg c6] at H
       have c6b0 : decide ((bt a0 zM) < 97) = false:=decide_eq_false c6
       clear c6
       by_cases c13 : (bt a0 zM) > 122
       ·rw [if_pos c13] at H
        have c13b0 : decide (122 < (bt a0 zM)) = true:=decide_eq_true c13
        clear c13
        by_cases c14 : (bt a0 zM) < 48
        ·rw [if_pos c14] at H
         have c14b0 : decide ((bt a0 zM) < 48) = true:=decide_eq_true c14
         clear c14
         replace H:=Option.bind_eq_some_iff.mp H
         obtain ⟨zR,Ah,H⟩:=H
         replace H : (if zR < 0 then (some false) else (bS.l0 k1 a0 (a0.size : Int) (wrap64 (zM + 1)))) = some r:=H
         have AO:=Aside0.mk Ah
         clear Ah
         by_cases c16 : zR < 0
         ·rw [if_pos c16] at H
          have c16b0 : decide (zR < 0) = true:=decide_eq_true c16
          clear c16
          obtain rfl:=Option.some.inj H
          have p5 : 0 ≤ (zM : Int):=of_decide_eq_true (by first|(with_reducible assumption)|assumption)
          have q5 : zM < (a0.size : Int):=of_decide_eq_true (by first|(with_reducible assumption)|assumption)
          have hx5:=dG a0 zM
          replace p5:=eq_true p5
          replace q5:=eq_true q5
          go_wp2_with (first|(go_at_call 47;(with_reducible refine (strings_IndexByte.calls (⟨#[46,95,45,47]⟩ : ByteArray) (bt a0 zM) zR _ AO.out).mono ?_);rintro e w' ⟨rfl,⟨nd,rfl⟩⟩))
          go_ret
          exact ⟨by first|rfl|(simp;done)|(simp [*];done),by repeat (first|exact Drawn0.refl _|apply Drawn0.step)⟩
         ·rw [if_neg c16] at H
          have c16b0 : decide (zR < 0) = false:=decide_eq_false c16
          clear c16
          have H':=Aside0.mk H
          clear H
          have p5 : 0 ≤ (zM : Int):=of_decide_eq_true (by first|(with_reducible assumption)|assumption)
          have q5 : zM < (a0.size : Int):=of_decide_eq_true (by first|(with_reducible assumption)|assumption)
          have hx5:=dG a0 zM
          replace p5:=eq_true p5
          replace q5:=eq_true q5
          go_wp2_with (first|(go_at_call 47;(with_reducible refine (strings_IndexByte.calls (⟨#[46,95,45,47]⟩ : ByteArray) (bt a0 zM) zR _ AO.out).mono ?_);rintro e w' ⟨rfl,⟨nd,rfl⟩⟩))
          go_roundg k1
          case measure=>have:=zS.out;omega
          case rel=>exact ⟨(wrap64 (zM + 1)),(by first|rfl|(simp;done)|(simp [*];done)),H',⟨by have:=zS.out;omega⟩,by repeat (first|exact Drawn0.refl _|apply Drawn0.step)⟩
        ·rw [if_neg c14] at H
         have c14b0 : decide ((bt a0 zM) < 48) = false:=decide_eq_false c14
         clear c14
         by_cases c17 : (bt a0 zM) > 57
         ·rw [if_pos c17] at H
          have c17b0 : decide (57 < (bt a0 zM)) = true:=decide_eq_true c17
          clear c17
          replace H:=Option.bind_eq_some_iff.mp H
          obtain ⟨t127,Ai,H⟩:=H
          replace H : (if t127 < 0 then (some false) else (bS.l0 k1 a0 (a0.size : Int) (wrap64 (zM + 1)))) = some r:=H
          have AP:=Aside0.mk Ai
          clear Ai
          by_cases c19 : t127 < 0
          ·rw [if_pos c19] at H
           have c19b0 : decide (t127 < 0) = true:=decide_eq_true c19
           clear c19
           obtain rfl:=Option.some.inj H
           have p5 : 0 ≤ (zM : Int):=of_decide_eq_true (by first|(with_reducible assumption)|assumption)
           have q5 : zM < (a0.size : Int):=of_decide_eq_true (by first|(with_reducible assumption)|assumption)
           have hx5:=dG a0 zM
           replace p5:=eq_true p5
           replace q5:=eq_true q5
           go_wp2_with (first|(go_at_call 47;(with_reducible refine (strings_IndexByte.calls (⟨#[46,95,45,47]⟩ : ByteArray) (bt a0 zM) t127 _ AP.out).mono ?_);rintro e w' ⟨rfl,⟨nd,rfl⟩⟩))
           go_ret
           exact ⟨by first|rfl|(simp;done)|(simp [*];done),by repeat (first|exact Drawn0.refl _|apply Drawn0.step)⟩
          ·rw [if_neg c19] at H
           have c19b0 : decide (t127 < 0) = false:=decide_eq_false c19
           clear c19
           have H':=Aside0.mk H
           clear H
           have p5 : 0 ≤ (zM : Int):=of_decide_eq_true (by first|(with_reducible assumption)|assumption)
           have q5 : zM < (a0.size : Int):=of_decide_eq_true (by first|(with_reducible assumption)|assumption)
           have hx5:=dG a0 zM
           replace p5:=eq_true p5
           replace q5:=eq_true q5
           go_wp2_with (first|(go_at_call 47;(with_reducible refine (strings_IndexByte.calls (⟨#[46,95,45,47]⟩ : ByteArray) (bt a0 zM) t127 _ AP.out).mono ?_);rintro e w' ⟨rfl,⟨nd,rfl⟩⟩))
           go_roundg k1
           case measure=>have:=zS.out;omega
           case rel=>exact ⟨(wrap64 (zM + 1)),(by first|rfl|(simp;done)|(simp [*];done)),H',⟨by have:=zS.out;omega⟩,by repeat (first|exact Drawn0.refl _|apply Drawn0.step)⟩
         ·rw [if_neg c17] at H
          have c17b0 : decide (57 < (bt a0 zM)) = false:=decide_eq_false c17
          clear c17
          have H':=Aside0.mk H
          clear H
          have p5 : 0 ≤ (zM : Int):=of_decide_eq_true (by first|(with_reducible assumption)|assumption)
          have q5 : zM < (a0.size : Int):=of_decide_eq_true (by first|(with_reducible assumption)|assumption)
          have hx5:=dG a0 zM
          replace p5:=eq_true p5
          replace q5:=eq_true q5
          go_wp2
          go_roundg k1
          case measure=>have:=zS.out;omega
          case rel=>exact ⟨(wrap64 (zM + 1)),(by first|rfl|(simp;done)|(simp [*];done)),H',⟨by have:=zS.out;omega⟩,by repeat (first|exact Drawn0.refl _|apply Drawn0.step)⟩
       ·rw [if_neg c13] at H
        have c13b0 : decide (122 < (bt a0 zM)) = false:=decide_eq_false c13
        clear c13
        have H':=Aside0.mk H
        clear H
        have p5 : 0 ≤ (zM : Int):=of_decide_eq_true (by first|(with_reducible assumption)|assumption)
        have q5 : zM < (a0.size : Int):=of_decide_eq_true (by first|(with_reducible assumption)|assumption)
        have hx5:=dG a0 zM
        replace p5:=eq_true p5
        replace q5:=eq_true q5
        go_wp2
        go_roundg k1
        case measure=>have:=zS.out;omega
        case rel=>exact ⟨(wrap64 (zM + 1)),(by first|rfl|(simp;done)|(simp [*];done)),H',⟨by have:=zS.out;omega⟩,by repeat (first|exact Drawn0.refl _|apply Drawn0.step)⟩
     ·rw [if_neg c4] at H
      exact absurd H (by simp)
    ·rw [if_neg c3] at H
     exact absurd H (by simp)
   ·rw [if_neg c2] at H
    have c2b0 : decide (zM < (a0.size : Int)) = false:=decide_eq_false c2
    clear c2
    by_cases c20 : a0.toList = ([] : List UInt8)
    ·rw [if_pos c20] at H
     have c20b0 : (a0.toList == ([] : List UInt8)) = true:=beq_iff_eq.mpr c20
     have c20b1 : (a0.toList != ([] : List UInt8)) = false:=bne_eq_false_iff_eq.mpr c20
     clear c20
     obtain rfl:=Option.some.inj H
     go_wp2
     go_ret
     exact ⟨by first|rfl|(simp;done)|(simp [*];done),by repeat (first|exact Drawn0.refl _|apply Drawn0.step)⟩
    ·rw [if_neg c20] at H
     have c20b0 : (a0.toList == ([] : List UInt8)) = false:=beq_eq_false_iff_ne.mpr c20
     have c20b1 : (a0.toList != ([] : List UInt8)) = true:=bne_iff_ne.mpr c20
     obtain rfl:=Option.some.inj H
     go_wp2
     go_ret
     exact ⟨by first|rfl|(simp;done)|(simp [*];done),by repeat (first|exact Drawn0.refl _|apply Drawn0.step)⟩
mutual
def bK.j0 : Nat → ByteArray → Bool → Option (Bool)
 | 0,_,_=>none
 | k + 1,x0,AY=>if AY = true then (some false) else (bK.l0 k x0 (x0.size : Int) 0)
def bK.l0 : Nat → ByteArray → Int → Int → Option (Bool)
 | 0,_,_,_=>none
 | k + 1,x0,x24,x25=>if x25 < x24 then (if 0 ≤ x25 then (if x25 < (x0.size : Int) then ((dY.f (bt x0 x25)).bind fun t130=>(if t130 = true then (bK.l0 k x0 x24 (wrap64 (x25 + 1))) else ((eY.f (bt x0 x25)).bind fun t131=>(if t131 = true then (bK.l0 k x0 x24 (wrap64 (x25 + 1))) else ((dK.f (bt x0 x25)).bind fun zO=>(if zO = true then (bK.l0 k x0 x24 (wrap64 (x25 + 1))) else ((strings_IndexByte.f (⟨#[46,95,45,47,58,64]⟩ : ByteArray) (bt x0 x25)).bind fun zN=>(if zN < 0 then (some false) else (bK.l0 k x0 x24 (wrap64 (x25 + 1))))))))))) else (none)) else (none)) else (some true)
end
def bK.f (k : Nat) (a0 : ByteArray) : Option (Bool):=if a0.toList = ([] : List UInt8) then (bK.j0 k a0 true) else (if (a0.size : Int) > 255 then (bK.j0 k a0 true) else (if 0 < (a0.size : Int) then ((dY.f (bt a0 0)).bind fun zX=>(if zX = true then (bK.j0 k a0 false) else ((dK.f (bt a0 0)).bind fun zP=>(bK.j0 k a0 (!zP))))) else (none)))
theorem bK.dX : ∀ k,(∀ y0 y1,LeO (bK.j0 k y0 y1) (bK.j0 (k + 1) y0 y1)) ∧ (∀ y0 y1 y2,LeO (bK.l0 k y0 y1 y2) (bK.l0 (k + 1) y0 y1 y2))
 | 0=>⟨fun _ _ r h=>by simp [bK.j0] at h,fun _ _ _ r h=>by simp [bK.l0] at h⟩
 | k + 1=>by
  obtain ⟨zW,ih1⟩:=bK.dX k
  refine ⟨?_,?_⟩
  ·intro y0 y1
   unfold bK.j0
   repeat' first
   | (with_reducible exact zW _ _)
   | (with_reducible exact ih1 _ _ _)
   | (with_reducible exact LeO.refl _)
   | (with_reducible exact LeO.none _)
   | (with_reducible refine LeO.ite ?_ ?_)
   | (with_reducible refine LeO.bind ?_ (fun _=>?_))
   | exact zW _ _
   | exact ih1 _ _ _
   | exact LeO.none _
   | refine LeO.ite ?_ ?_
   | refine LeO.bind ?_ (fun _=>?_)
  ·intro y0 y1 y2
   unfold bK.l0
   repeat' first
   | (with_reducible exact zW _ _)
   | (with_reducible exact ih1 _ _ _)
   | (with_reducible exact LeO.refl _)
   | (with_reducible exact LeO.none _)
   | (with_reducible refine LeO.ite ?_ ?_)
   | (with_reducible refine LeO.bind ?_ (fun _=>?_))
   | exact zW _ _
   | exact ih1 _ _ _
   | exact LeO.none _
   | refine LeO.ite ?_ ?_
   | refine LeO.bind ?_ (fun _=>?_)
theorem bK.mono : ∀ a0 k,LeO (bK.f k a0) (bK.f (k + 1) a0):=by
 intro a0 k
 obtain ⟨zW,ih1⟩:=bK.dX k
 unfold bK.f
 repeat' first
   | (with_reducible exact zW _ _)
   | (with_reducible exact ih1 _ _ _)
   | (with_reducible exact LeO.refl _)
   | (with_reducible exact LeO.none _)
   | (with_reducible refine LeO.ite ?_ ?_)
   | (with_reducible refine LeO.bind ?_ (fun _=>?_))
   | exact zW _ _
   | exact ih1 _ _ _
   | exact LeO.none _
   | refine LeO.ite ?_ ?_
   | refine LeO.bind ?_ (fun _=>?_)
set_option maxHeartbeats 8000000 in
set_option maxRecDepth 100000 in
theorem bK.calls (k : Nat) (a0 : ByteArray) (r : Bool) (w : World) (h : bK.f k a0 = some r) :
  Calls Tryd.prog 42 #[.string a0] w fun e w'=>e = .returned (.bool r) ∧ Drawn0 w w':=by
 have H : (if a0.toList = ([] : List UInt8) then (bK.j0 k a0 true) else (if (a0.size : Int) > 255 then (bK.j0 k a0 true) else (if 0 < (a0.size : Int) then ((dY.f (bt a0 0)).bind fun zX=>(if zX = true then (bK.j0 k a0 false) else ((dK.f (bt a0 0)).bind fun zP=>(bK.j0 k a0 (!zP))))) else (none)))) = some r:=h
 clear h
 have Ay:=Aside0.mk H
 clear H
 go_enter Tryd.func42,Tryd.ntmps42
 go_upto_region 1 with (fail)
 go_cut [22] (fun v22 wc=>∃ (kq : Nat) (zT : Bool),v22 = .bool zT ∧ Aside0 (bK.j0 kq a0 zT = some r) ∧ Aside0 (kq ≤ k) ∧ Drawn0 w wc)
 case first =>
  have H:=Ay.out
  clear Ay
  by_cases c3 : a0.toList = ([] : List UInt8)
  ·rw [if_pos c3] at H
   have c3b0 : (a0.toList == ([] : List UInt8)) = true:=beq_iff_eq.mpr c3
   have c3b1 : (a0.toList != ([] : List UInt8)) = false:=bne_eq_false_iff_eq.mpr c3
   clear c3
   (first|rw [c3b0]|(simp only [bI,bN];rw [c3b0])|skip)
   have H':=Aside0.mk H
   clear H
   go_wp2
   go_meet
   case rel=>exact ⟨_,(true),(by first|rfl|(simp;done)|(simp [*];done)),H',⟨by first|omega|exact Nat.le_refl _⟩,by repeat (first|exact Drawn0.refl _|apply Drawn0.step)⟩
  ·rw [if_neg c3] at H
   have c3b0 : (a0.toList == ([] : List UInt8)) = false:=beq_eq_false_iff_ne.mpr c3
   have c3b1 : (a0.toList != ([] : List UInt8)) = true:=bne_iff_ne.mpr c3
   (first|rw [c3b0]|(simp only [bI,bN];rw [c3b0])|skip)
   by_cases c4 : (a0.size : Int) > 255
   ·rw [if_pos c4] at H
    have c4b0 : decide (255 < (a0.size : Int)) = true:=decide_eq_true c4
    have c4b1 : decide (255 < a0.size) = true:=decide_eq_true (by omega)
    clear c4
    have H':=Aside0.mk H
    clear H
    go_wp2
    go_meet
    case rel=>exact ⟨_,(true),(by first|rfl|(simp;done)|(simp [*];done)),H',⟨by first|omega|exact Nat.le_refl _⟩,by repeat (first|exact Drawn0.refl _|apply Drawn0.step)⟩
   ·rw [if_neg c4] at H
    have c4b0 : decide (255 < (a0.size : Int)) = false:=decide_eq_false c4
    have c4b1 : decide (255 < a0.size) = false:=decide_eq_false (by omega)
    clear c4
    by_cases c5 : 0 < (a0.size : Int)
    ·rw [if_pos c5] at H
     have c5b0 : decide (0 < (a0.size : Int)) = true:=decide_eq_true c5
     have c5b1 : decide (0 < a0.size) = true:=decide_eq_true (by omega)
     clear c5
     replace H:=Option.bind_eq_some_iff.mp H
     obtain ⟨zX,AQ,H⟩:=H
     replace H : (if zX = true then (bK.j0 k a0 false) else ((dK.f (bt a0 0)).bind fun zP=>(bK.j0 k a0 (!zP)))) = some r:=H
     have A7:=Aside0.mk AQ
     clear AQ
     by_cases c8 : zX = true
     ·subst c8
      have H1 : (bK.j0 k a0 false) = some r:=by rw [if_pos rfl] at H;exact H
      clear H
      have H:=H1
      clear H1
      have H':=Aside0.mk H
      clear H
      have p6 : 0 ≤ (0 : Int):=(by omega)
      have q6 : 0 < a0.size:=(by have : (0 : Int) < (a0.size : Int):=of_decide_eq_true (by first|(with_reducible assumption)|assumption);omega)
      have hx6 : ∀ h : 0 < a0.size,((a0[0]'h).toNat : Int) = bt a0 0:=dG a0 0
      clear p6
      have Az : (0 < (a0.size : Int)) = True:=eq_true (of_decide_eq_true (by first|(with_reducible assumption)|assumption))
      replace q6:=eq_true q6
      go_wp2_with (first|(go_at_call 73;(with_reducible refine (dY.calls (bt a0 0) true _ A7.out).mono ?_);rintro e w' ⟨rfl,⟨nd,rfl⟩⟩))
      go_meet
      case rel=>exact ⟨_,(false),(by first|rfl|(simp;done)|(simp [*];done)),H',⟨by first|omega|exact Nat.le_refl _⟩,by repeat (first|exact Drawn0.refl _|apply Drawn0.step)⟩
     ·replace c8:=Bool.eq_false_iff.mpr c8
      subst c8
      have H1 : ((dK.f (bt a0 0)).bind fun zP=>(bK.j0 k a0 (!zP))) = some r:=by rw [if_neg (show ¬ (false = true) by decide)] at H;exact H
      clear H
      have H:=H1
      clear H1
      replace H:=Option.bind_eq_some_iff.mp H
      obtain ⟨zP,Aj,H⟩:=H
      replace H : (bK.j0 k a0 (!zP)) = some r:=H
      have AZ:=Aside0.mk Aj
      clear Aj
      have H':=Aside0.mk H
      clear H
      have p6 : 0 ≤ (0 : Int):=(by omega)
      have q6 : 0 < a0.size:=(by have : (0 : Int) < (a0.size : Int):=of_decide_eq_true (by first|(with_reducible assumption)|assumption);omega)
      have hx6 : ∀ h : 0 < a0.size,((a0[0]'h).toNat : Int) = bt a0 0:=dG a0 0
      clear p6
      have Az : (0 < (a0.size : Int)) = True:=eq_true (of_decide_eq_true (by first|(with_reducible assumption)|assumption))
      replace q6:=eq_true q6
      go_wp2_with (first|(go_at_call 73;(with_reducible refine (dY.calls (bt a0 0) false _ A7.out).mono ?_);rintro e w' ⟨rfl,⟨nd,rfl⟩⟩;have p9 : 0 ≤ (0 : Int):=(by omega);have q9 : 0 < a0.size:=(by have : (0 : Int) < (a0.size : Int):=of_decide_eq_true (by first|(with_reducible assumption)|assumption);omega);have AU : ∀ h : 0 < a0.size,((a0[0]'h).toNat : Int) = bt a0 0:=dG a0 0;clear p9;have AV : (0 < (a0.size : Int)) = True:=eq_true (of_decide_eq_true (by first|(with_reducible assumption)|assumption));replace q9:=eq_true q9)|(go_at_call 74;(with_reducible refine (dK.calls (bt a0 0) zP _ AZ.out).mono ?_);rintro e w' ⟨rfl,⟨nd,rfl⟩⟩))
      go_meet
      case rel=>exact ⟨_,(!zP),(by first|rfl|(simp;done)|(simp [*];done)),H',⟨by first|omega|exact Nat.le_refl _⟩,by repeat (first|exact Drawn0.refl _|apply Drawn0.step)⟩
    ·rw [if_neg c5] at H
     exact absurd H (by simp)
 case rest =>
  clear Ay
  try clear p2
  try clear c3
  try clear c3b0
  try clear c3b1
  try clear c4
  try clear c4b0
  try clear c4b1
  try clear c5
  try clear c5b0
  try clear c5b1
  try clear p6
  try clear q6
  try clear hx6
  try clear Az
  try clear c8
  try clear p9
  try clear q9
  try clear AU
  try clear AV
  try clear p6
  try clear p9
  try clear q6
  try clear q9
  obtain ⟨kq,zT,rfl,HA,Aa,⟨A9,rfl⟩⟩:=hcut
  cases kq with
  | zero=>exact absurd HA.out (by simp [bK.j0])
  | succ AA =>
   have H:=HA.out
   clear HA
   simp only [bK.j0] at H
   by_cases c11 : zT = true
   ·subst c11
    have H1 : (some false) = some r:=by rw [if_pos rfl] at H;exact H
    clear H
    have H:=H1
    clear H1
    obtain rfl:=Option.some.inj H
    go_wp2
    go_ret
    exact ⟨by first|rfl|(simp;done)|(simp [*];done),by repeat (first|exact Drawn0.refl _|apply Drawn0.step)⟩
   ·replace c11:=Bool.eq_false_iff.mpr c11
    subst c11
    have H1 : (bK.l0 AA a0 (a0.size : Int) 0) = some r:=by rw [if_neg (show ¬ (false = true) by decide)] at H;exact H
    clear H
    have H:=H1
    clear H1
    have H':=Aside0.mk H
    clear H
    go_wp2
    go_loopg [25] AA (fun kq v25 w'=>∃ (zL : Int),v25 = .int .i64 zL ∧ Aside0 (bK.l0 kq a0 (a0.size : Int) zL = some r) ∧ Aside0 (kq ≤ AA) ∧ Drawn0 w w')
    case atStart=>exact ⟨(0),(by first|rfl|(simp;done)|(simp [*];done)),H',⟨Nat.le_refl _⟩,by repeat (first|exact Drawn0.refl _|apply Drawn0.step)⟩
    case round =>
     clear H'
     try clear c1
     try clear p2
     try clear c3
     try clear c3b0
     try clear c3b1
     try clear c4
     try clear c4b0
     try clear c4b1
     try clear c5
     try clear c5b0
     try clear c5b1
     try clear p6
     try clear q6
     try clear hx6
     try clear Az
     try clear c8
     try clear p9
     try clear q9
     try clear AU
     try clear AV
     try clear c11
     try clear p2
     try clear p6
     try clear p9
     try clear q6
     try clear q9
     obtain ⟨zL,rfl,HA,Ab,⟨m2,rfl⟩⟩:=hrel
     cases gk with
     | zero=>exact absurd HA.out (by simp [bK.l0])
     | succ k2 =>
      have H:=HA.out
      clear HA
      simp only [bK.l0] at H
      by_cases c12 : zL < (a0.size : Int)
      ·rw [if_pos c12] at H
       have c12b0 : decide (zL < (a0.size : Int)) = true:=decide_eq_true c12
       clear c12
       by_cases c13 : 0 ≤ zL
       ·rw [if_pos c13] at H
        have c13b0 : decide (0 ≤ zL) = true:=decide_eq_true c13
        clear c13
        by_cases c14 : zL < (a0.size : Int)
        ·rw [if_pos c14] at H
         have c14b0 : decide (zL < (a0.size : Int)) = true:=decide_eq_true c14
         clear c14
         replace H:=Option.bind_eq_some_iff.mp H
         obtain ⟨t130,Ak,H⟩:=H
         replace H : (if t130 = true then (bK.l0 k2 a0 (a0.size : Int) (wrap64 (zL + 1))) else ((eY.f (bt a0 zL)).bind fun t131=>(if t131 = true then (bK.l0 k2 a0 (a0.size : Int) (wrap64 (zL + 1))) else ((dK.f (bt a0 zL)).bind fun zO=>(if zO = true then (bK.l0 k2 a0 (a0.size : Int) (wrap64 (zL + 1))) else ((strings_IndexByte.f (⟨#[46,95,45,47,58,64]⟩ : ByteArray) (bt a0 zL)).bind fun zN=>(if zN < 0 then (some false) else (bK.l0 k2 a0 (a0.size : Int) (wrap64 (zL + 1)))))))))) = some r:=H
         have Al:=Aside0.mk Ak
         clear Ak
         by_cases c17 : t130 = true
         ·subst c17
          have H1 : (bK.l0 k2 a0 (a0.size : Int) (wrap64 (zL + 1))) = some r:=by rw [if_pos rfl] at H;exact H
          clear H
          have H:=H1
          clear H1
          have H':=Aside0.mk H
          clear H
          have zU : 0 ≤ (zL : Int):=of_decide_eq_true (by first|(with_reducible assumption)|assumption)
          have zV : zL < (a0.size : Int):=of_decide_eq_true (by first|(with_reducible assumption)|assumption)
          have z8:=dG a0 zL
          replace zU:=eq_true zU
          replace zV:=eq_true zV
          go_wp2_with (first|((with_reducible refine bA (f:=73) rfl ?_);refine cO (some 31) rfl rfl Tryd.func73 (by kernel_rfl) rfl #[.int .u8 (bt a0 zL)] rfl (by (try simp only [List.map_toArray,List.map_cons,List.map_nil]);first|done|rfl|(simp only [List.length_drop,List.length_take];rfl)|(simp (disch:=first|omega|(simp at *;omega)) only [bY,bJ,dF];rfl)) ?_;(with_reducible refine (dY.calls (bt a0 zL) true _ Al.out).mono ?_);rintro e w' ⟨rfl,⟨nd,rfl⟩⟩;refine ⟨_,rfl,?_⟩))
          go_roundg k2
          case measure=>have:=Aa.out;have:=Ab.out;omega
          case rel=>exact ⟨(wrap64 (zL + 1)),(by first|rfl|(simp;done)|(simp [*];done)),H',⟨by have:=Aa.out;have:=Ab.out;omega⟩,by repeat (first|exact Drawn0.refl _|apply Drawn0.step)⟩
         ·replace c17:=Bool.eq_false_iff.mpr c17
          subst c17
          have H1 : ((eY.f (bt a0 zL)).bind fun t131=>(if t131 = true then (bK.l0 k2 a0 (a0.size : Int) (wrap64 (zL + 1))) else ((dK.f (bt a0 zL)).bind fun zO=>(if zO = true then (bK.l0 k2 a0 (a0.size : Int) (wrap64 (zL + 1))) else ((strings_IndexByte.f (⟨#[46,95,45,47,58,64]⟩ : ByteArray) (bt a0 zL)).bind fun zN=>(if zN < 0 then (some false) else (bK.l0 k2 a0 (a0.size : Int) (wrap64 (zL + 1))))))))) = some r:=by rw [if_neg (show ¬ (false = true) by decide)] at H;exact H
          clear H
          have H:=H1
          clear H1
          replace H:=Option.bind_eq_some_iff.mp H
          obtain ⟨t131,Am,H⟩:=H
          replace H : (if t131 = true then (bK.l0 k2 a0 (a0.size : Int) (wrap64 (zL + 1))) else ((dK.f (bt a0 zL)).bind fun zO=>(if zO = true then (bK.l0 k2 a0 (a0.size : Int) (wrap64 (zL + 1))) else ((strings_IndexByte.f (⟨#[46,95,45,47,58,64]⟩ : ByteArray) (bt a0 zL)).bind fun zN=>(if zN < 0 then (some false) else (bK.l0 k2 a0 (a0.size : Int) (wrap64 (zL + 1)))))))) = some r:=H
          have Aw:=Aside0.mk Am
          clear Am
          by_cases c20 : t131 = true
          ·subst c20
           have H1 : (bK.l0 k2 a0 (a0.size : Int) (wrap64 (zL + 1))) = some r:=by rw [if_pos rfl] at H;exact H
           clear H
           have H:=H1
           clear H1
           have H':=Aside0.mk H
           clear H
           have zU : 0 ≤ (zL : Int):=of_decide_eq_true (by first|(with_reducible assumption)|assumption)
           have zV : zL < (a0.size : Int):=of_decide_eq_true (by first|(with_reducible assumption)|assumption)
           have z8:=dG a0 zL
           replace zU:=eq_true zU
           replace zV:=eq_true zV
           go_wp2_with (first|((with_reducible refine bA (f:=73) rfl ?_);refine cO (some 31) rfl rfl Tryd.func73 (by kernel_rfl) rfl #[.int .u8 (bt a0 zL)] rfl (by (try simp only [List.map_toArray,List.map_cons,List.map_nil]);first|done|rfl|(simp only [List.length_drop,List.length_take];rfl)|(simp (disch:=first|omega|(simp at *;omega)) only [bY,bJ,dF];rfl)) ?_;(with_reducible refine (dY.calls (bt a0 zL) false _ Al.out).mono ?_);rintro e w' ⟨rfl,⟨nd,rfl⟩⟩;refine ⟨_,rfl,?_⟩;have zY : 0 ≤ (zL : Int):=of_decide_eq_true (by first|(with_reducible assumption)|assumption);have zZ : zL < (a0.size : Int):=of_decide_eq_true (by first|(with_reducible assumption)|assumption);have Ae:=dG a0 zL;replace zY:=eq_true zY;replace zZ:=eq_true zZ)|(go_at_call 75;(with_reducible refine (eY.calls (bt a0 zL) true _ Aw.out).mono ?_);rintro e w' ⟨rfl,⟨nd,rfl⟩⟩))
           go_roundg k2
           case measure=>have:=Aa.out;have:=Ab.out;omega
           case rel=>exact ⟨(wrap64 (zL + 1)),(by first|rfl|(simp;done)|(simp [*];done)),H',⟨by have:=Aa.out;have:=Ab.out;omega⟩,by repeat (first|exact Drawn0.refl _|apply Drawn0.step)⟩
          ·replace c20:=Bool.eq_false_iff.mpr c20
           subst c20
           have H1 : ((dK.f (bt a0 zL)).bind fun zO=>(if zO = true then (bK.l0 k2 a0 (a0.size : Int) (wrap64 (zL + 1))) else ((strings_IndexByte.f (⟨#[46,95,45,47,58,64]⟩ : ByteArray) (bt a0 zL)).bind fun zN=>(if zN < 0 then (some false) else (bK.l0 k2 a0 (a0.size : Int) (wrap64 (zL + 1))))))) = some r:=by rw [if_neg (show ¬ (false = true) by decide)] at H;exact H
           clear H
           have H:=H1
           clear H1
           replace H:=Option.bind_eq_some_iff.mp H
           obtain ⟨zO,Ap,H⟩:=H
           replace H : (if zO = true then (bK.l0 k2 a0 (a0.size : Int) (wrap64 (zL + 1))) else ((strings_IndexByte.f (⟨#[46,95,45,47,58,64]⟩ : ByteArray) (bt a0 zL)).bind fun zN=>(if zN < 0 then (some false) else (bK.l0 k2 a0 (a0.size : Int) (wrap64 (zL + 1)))))) = some r:=H
           have AB:=Aside0.mk Ap
           clear Ap
           by_cases c23 : zO = true
           ·subst c23
            have H1 : (bK.l0 k2 a0 (a0.size : Int) (wrap64 (zL + 1))) = some r:=by rw [if_pos rfl] at H;exact H
            clear H
            have H:=H1
            clear H1
            have H':=Aside0.mk H
            clear H
            have zU : 0 ≤ (zL : Int):=of_decide_eq_true (by first|(with_reducible assumption)|assumption)
            have zV : zL < (a0.size : Int):=of_decide_eq_true (by first|(with_reducible assumption)|assumption)
            have z8:=dG a0 zL
            replace zU:=eq_true zU
            replace zV:=eq_true zV
            go_wp2_with (first|((with_reducible refine bA (f:=73) rfl ?_);refine cO (some 31) rfl rfl Tryd.func73 (by kernel_rfl) rfl #[.int .u8 (bt a0 zL)] rfl (by (try simp only [List.map_toArray,List.map_cons,List.map_nil]);first|done|rfl|(simp only [List.length_drop,List.length_take];rfl)|(simp (disch:=first|omega|(simp at *;omega)) only [bY,bJ,dF];rfl)) ?_;(with_reducible refine (dY.calls (bt a0 zL) false _ Al.out).mono ?_);rintro e w' ⟨rfl,⟨nd,rfl⟩⟩;refine ⟨_,rfl,?_⟩;have zY : 0 ≤ (zL : Int):=of_decide_eq_true (by first|(with_reducible assumption)|assumption);have zZ : zL < (a0.size : Int):=of_decide_eq_true (by first|(with_reducible assumption)|assumption);have Ae:=dG a0 zL;replace zY:=eq_true zY;replace zZ:=eq_true zZ)|(go_at_call 75;(with_reducible refine (eY.calls (bt a0 zL) false _ Aw.out).mono ?_);rintro e w' ⟨rfl,⟨nd,rfl⟩⟩;have Ac : 0 ≤ (zL : Int):=of_decide_eq_true (by first|(with_reducible assumption)|assumption);have Ad : zL < (a0.size : Int):=of_decide_eq_true (by first|(with_reducible assumption)|assumption);have Aq:=dG a0 zL;replace Ac:=eq_true Ac;replace Ad:=eq_true Ad)|(go_at_call 74;(with_reducible refine (dK.calls (bt a0 zL) true _ AB.out).mono ?_);rintro e w' ⟨rfl,⟨nd,rfl⟩⟩))
            go_roundg k2
            case measure=>have:=Aa.out;have:=Ab.out;omega
            case rel=>exact ⟨(wrap64 (zL + 1)),(by first|rfl|(simp;done)|(simp [*];done)),H',⟨by have:=Aa.out;have:=Ab.out;omega⟩,by repeat (first|exact Drawn0.refl _|apply Drawn0.step)⟩
           ·replace c23:=Bool.eq_false_iff.mpr c23
            subst c23
            have H1 : ((strings_IndexByte.f (⟨#[46,95,45,47,58,64]⟩ : ByteArray) (bt a0 zL)).bind fun zN=>(if zN < 0 then (some false) else (bK.l0 k2 a0 (a0.size : Int) (wrap64 (zL + 1))))) = some r:=by rw [if_neg (show ¬ (false = true) by decide)] at H;exact H
            clear H
            have H:=H1
            clear H1
            replace H:=Option.bind_eq_some_iff.mp H
            obtain ⟨zN,Ar,H⟩:=H
            replace H : (if zN < 0 then (some false) else (bK.l0 k2 a0 (a0.size : Int) (wrap64 (zL + 1)))) = some r:=H
            have AX:=Aside0.mk Ar
            clear Ar
            by_cases Af : zN < 0
            ·rw [if_pos Af] at H
             have c26b0 : decide (zN < 0) = true:=decide_eq_true Af
             clear Af
             obtain rfl:=Option.some.inj H
             have zU : 0 ≤ (zL : Int):=of_decide_eq_true (by first|(with_reducible assumption)|assumption)
             have zV : zL < (a0.size : Int):=of_decide_eq_true (by first|(with_reducible assumption)|assumption)
             have z8:=dG a0 zL
             replace zU:=eq_true zU
             replace zV:=eq_true zV
             go_wp2_with (first|((with_reducible refine bA (f:=73) rfl ?_);refine cO (some 31) rfl rfl Tryd.func73 (by kernel_rfl) rfl #[.int .u8 (bt a0 zL)] rfl (by (try simp only [List.map_toArray,List.map_cons,List.map_nil]);first|done|rfl|(simp only [List.length_drop,List.length_take];rfl)|(simp (disch:=first|omega|(simp at *;omega)) only [bY,bJ,dF];rfl)) ?_;(with_reducible refine (dY.calls (bt a0 zL) false _ Al.out).mono ?_);rintro e w' ⟨rfl,⟨nd,rfl⟩⟩;refine ⟨_,rfl,?_⟩;have zY : 0 ≤ (zL : Int):=of_decide_eq_true (by first|(with_reducible assumption)|assumption);have zZ : zL < (a0.size : Int):=of_decide_eq_true (by first|(with_reducible assumption)|assumption);have Ae:=dG a0 zL;replace zY:=eq_true zY;replace zZ:=eq_true zZ)|(go_at_call 75;(with_reducible refine (eY.calls (bt a0 zL) false _ Aw.out).mono ?_);rintro e w' ⟨rfl,⟨nd,rfl⟩⟩;have Ac : 0 ≤ (zL : Int):=of_decide_eq_true (by first|(with_reducible assumption)|assumption);have Ad : zL < (a0.size : Int):=of_decide_eq_true (by first|(with_reducible assumption)|assumption);have Aq:=dG a0 zL;replace Ac:=eq_true Ac;replace Ad:=eq_true Ad)|(go_at_call 74;(with_reducible refine (dK.calls (bt a0 zL) false _ AB.out).mono ?_);rintro e w' ⟨rfl,⟨nd,rfl⟩⟩;have Av : 0 ≤ (zL : Int):=of_decide_eq_true (by first|(with_reducible assumption)|assumption);have q24 : zL < (a0.size : Int):=of_decide_eq_true (by first|(with_reducible assumption)|assumption);have hx24:=dG a0 zL;replace Av:=eq_true Av;replace q24:=eq_true q24)|(go_at_call 47;(with_reducible refine (strings_IndexByte.calls (⟨#[46,95,45,47,58,64]⟩ : ByteArray) (bt a0 zL) zN _ AX.out).mono ?_);rintro e w' ⟨rfl,⟨nd,rfl⟩⟩))
             go_ret
             exact ⟨by first|rfl|(simp;done)|(simp [*];done),by repeat (first|exact Drawn0.refl _|apply Drawn0.step)⟩
            ·rw [if_neg Af] at H
             have c26b0 : decide (zN < 0) = false:=decide_eq_false Af
             clear Af
             have H':=Aside0.mk H
             clear H
             have zU : 0 ≤ (zL : Int):=of_decide_eq_true (by first|(with_reducible assumption)|assumption)
             have zV : zL < (a0.size : Int):=of_decide_eq_true (by first|(with_reducible assumption)|assumption)
             have z8:=dG a0 zL
             replace zU:=eq_true zU
             replace zV:=eq_true zV
             go_wp2_with (first|((with_reducible refine bA (f:=73) rfl ?_);refine cO (some 31) rfl rfl Tryd.func73 (by kernel_rfl) rfl #[.int .u8 (bt a0 zL)] rfl (by (try simp only [List.map_toArray,List.map_cons,List.map_nil]);first|done|rfl|(simp only [List.length_drop,List.length_take];rfl)|(simp (disch:=first|omega|(simp at *;omega)) only [bY,bJ,dF];rfl)) ?_;(with_reducible refine (dY.calls (bt a0 zL) false _ Al.out).mono ?_);rintro e w' ⟨rfl,⟨nd,rfl⟩⟩;refine ⟨_,rfl,?_⟩;have zY : 0 ≤ (zL : Int):=of_decide_eq_true (by first|(with_reducible assumption)|assumption);have zZ : zL < (a0.size : Int):=of_decide_eq_true (by first|(with_reducible assumption)|assumption);have Ae:=dG a0 zL;replace zY:=eq_true zY;replace zZ:=eq_true zZ)|(go_at_call 75;(with_reducible refine (eY.calls (bt a0 zL) false _ Aw.out).mono ?_);rintro e w' ⟨rfl,⟨nd,rfl⟩⟩;have Ac : 0 ≤ (zL : Int):=of_decide_eq_true (by first|(with_reducible assumption)|assumption);have Ad : zL < (a0.size : Int):=of_decide_eq_true (by first|(with_reducible assumption)|assumption);have Aq:=dG a0 zL;replace Ac:=eq_true Ac;replace Ad:=eq_true Ad)|(go_at_call 74;(with_reducible refine (dK.calls (bt a0 zL) false _ AB.out).mono ?_);rintro e w' ⟨rfl,⟨nd,rfl⟩⟩;have Av : 0 ≤ (zL : Int):=of_decide_eq_true (by first|(with_reducible assumption)|assumption);have q24 : zL < (a0.size : Int):=of_decide_eq_true (by first|(with_reducible assumption)|assumption);have hx24:=dG a0 zL;replace Av:=eq_true Av;replace q24:=eq_true q24)|(go_at_call 47;(with_reducible refine (strings_IndexByte.calls (⟨#[46,95,45,47,58,64]⟩ : ByteArray) (bt a0 zL) zN _ AX.out).mono ?_);rintro e w' ⟨rfl,⟨nd,rfl⟩⟩))
             go_roundg k2
             case measure=>have:=Aa.out;have:=Ab.out;omega
             case rel=>exact ⟨(wrap64 (zL + 1)),(by first|rfl|(simp;done)|(simp [*];done)),H',⟨by have:=Aa.out;have:=Ab.out;omega⟩,by repeat (first|exact Drawn0.refl _|apply Drawn0.step)⟩
        ·rw [if_neg c14] at H
         exact absurd H (by simp)
       ·rw [if_neg c13] at H
        exact absurd H (by simp)
      ·rw [if_neg c12] at H
       have c12b0 : decide (zL < (a0.size : Int)) = false:=decide_eq_false c12
       clear c12
       obtain rfl:=Option.some.inj H
       go_wp2
       go_ret
       exact ⟨by first|rfl|(simp;done)|(simp [*];done),by repeat (first|exact Drawn0.refl _|apply Drawn0.step)⟩
end Go.Proofs.YtpmbdcljphpcnaaDoor.GC2
