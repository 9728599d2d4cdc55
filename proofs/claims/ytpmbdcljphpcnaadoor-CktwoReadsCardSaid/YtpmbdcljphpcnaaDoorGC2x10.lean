/- Written by this session's own program (wip/gen.py) out of the translation: plain Lean functions of the Go functions, and proofs that the calls come to their answers. No conditions beside those in the statements. -/
import Derived.Test.YtpmbdcljphpcnaaDoorGC2x0
import Derived.Test.YtpmbdcljphpcnaaDoorGC2x9
namespace Go.Proofs.YtpmbdcljphpcnaaDoor.GC2
open Go.RowKit Go.Proofs.YtpmbdcljphpcnaaDoorW.PrintWords Go.Proofs.YtpmbdcljphpcnaaDoorW.PrintLast Go.Proofs.YtpmbdcljphpcnaaDoorW.PrintMore
attribute [local go_sem] fO fP gI gJ fF fG fQ fT
set_option linter.unusedVariables false
set_option linter.unusedSimpArgs false
def bE.l0 : Nat → ByteArray → ByteArray → Int → Option (Bool)
 | 0,_,_,_=>none
 | k + 1,x0,x1,x5=>if x5 < (x0.size : Int) then (if 0 ≤ x5 then ((bH.f k (bt x0 x5) x1).bind fun Ae=>(if Ae = true then (bE.l0 k x0 x1 (wrap64 (x5 + 1))) else (some false))) else (none)) else (some true)
def bE.f (k : Nat) (a0 : ByteArray) (a1 : ByteArray) : Option (Bool):=bE.l0 k a0 a1 0
theorem bE.dX : ∀ k,(∀ y0 y1 y2,LeO (bE.l0 k y0 y1 y2) (bE.l0 (k + 1) y0 y1 y2))
 | 0=>fun _ _ _ r h=>by simp [bE.l0] at h
 | k + 1=>by
  have zY:=bE.dX k
  ·intro y0 y1 y2
   unfold bE.l0
   repeat' first
   | (with_reducible exact zY _ _ _)
   | (with_reducible exact bH.mono _ _ _)
   | (with_reducible exact LeO.refl _)
   | (with_reducible exact LeO.none _)
   | (with_reducible refine LeO.ite ?_ ?_)
   | (with_reducible refine LeO.bind ?_ (fun _=>?_))
   | exact zY _ _ _
   | exact bH.mono _ _ _
   | exact LeO.none _
   | refine LeO.ite ?_ ?_
   | refine LeO.bind ?_ (fun _=>?_)
theorem bE.mono : ∀ a0 a1 k,LeO (bE.f k a0 a1) (bE.f (k + 1) a0 a1):=by
 intro a0 a1 k
 have zY:=bE.dX k
 unfold bE.f
 repeat' first
   | (with_reducible exact zY _ _ _)
   | (with_reducible exact bH.mono _ _ _)
   | (with_reducible exact LeO.refl _)
   | (with_reducible exact LeO.none _)
   | (with_reducible refine LeO.ite ?_ ?_)
   | (with_reducible refine LeO.bind ?_ (fun _=>?_))
   | exact zY _ _ _
   | exact bH.mono _ _ _
   | exact LeO.none _
   | refine LeO.ite ?_ ?_
   | refine LeO.bind ?_ (fun _=>?_)
set_option maxHeartbeats 8000000 in
set_option maxRecDepth 100000 in
theorem bE.calls (k : Nat) (a0 : ByteArray) (a1 : ByteArray) (r : Bool) (w : World) (h : bE.f k a0 a1 = some r) :
  Calls Tryd.prog 65 #[.string a0,.string a1] w fun e w'=>e = .returned (.bool r) ∧ Drawn0 w w':=by
 have H : (bE.l0 k a0 a1 0) = some r:=h
 clear h
 have H':=Aside0.mk H
 clear H
 go_enter Tryd.func65,Tryd.ntmps65
 go_wp2
 go_loopg [5] k (fun kq v5 w'=>∃ (zL : Int),v5 = .int .i64 zL ∧ Aside0 (bE.l0 kq a0 a1 zL = some r) ∧ Aside0 (kq ≤ k) ∧ Drawn0 w w')
 case atStart=>exact ⟨(0),(by first|rfl|(simp;done)|(simp [*];done)),H',⟨Nat.le_refl _⟩,by repeat (first|exact Drawn0.refl _|apply Drawn0.step)⟩
 case round =>
  clear H'
  try clear p2
  obtain ⟨zL,rfl,HA,Ac,⟨m1,rfl⟩⟩:=hrel
  cases gk with
  | zero=>exact absurd HA.out (by simp [bE.l0])
  | succ k1 =>
   have H:=HA.out
   clear HA
   simp only [bE.l0] at H
   by_cases c3 : zL < (a0.size : Int)
   ·rw [if_pos c3] at H
    have c3b0 : decide (zL < (a0.size : Int)) = true:=decide_eq_true c3
    clear c3
    by_cases c4 : 0 ≤ zL
    ·rw [if_pos c4] at H
     have c4b0 : decide (0 ≤ zL) = true:=decide_eq_true c4
     clear c4
     replace H:=Option.bind_eq_some_iff.mp H
     obtain ⟨Ae,Ap,H⟩:=H
     replace H : (if Ae = true then (bE.l0 k1 a0 a1 (wrap64 (zL + 1))) else (some false)) = some r:=H
     have A6:=Aside0.mk Ap
     clear Ap
     by_cases c7 : Ae = true
     ·subst c7
      have H1 : (bE.l0 k1 a0 a1 (wrap64 (zL + 1))) = some r:=by rw [if_pos rfl] at H;exact H
      clear H
      have H:=H1
      clear H1
      have H':=Aside0.mk H
      clear H
      have p5 : 0 ≤ (zL : Int):=of_decide_eq_true (by first|(with_reducible assumption)|assumption)
      have q5 : zL < (a0.size : Int):=of_decide_eq_true (by first|(with_reducible assumption)|assumption)
      have hx5:=dG a0 zL
      replace p5:=eq_true p5
      replace q5:=eq_true q5
      go_wp2_with (first|((with_reducible refine bA (f:=69) rfl ?_);refine cO (some 16) rfl rfl Tryd.func69 (by kernel_rfl) rfl #[.int .u8 (bt a0 zL),.string a1] rfl (by (try simp only [List.map_toArray,List.map_cons,List.map_nil]);first|done|rfl|(simp only [List.length_drop,List.length_take];rfl)|(simp (disch:=first|omega|(simp at *;omega)) only [bY,bJ,dF];rfl)) ?_;(with_reducible refine (bH.calls k1 (bt a0 zL) a1 true _ A6.out).mono ?_);rintro e w' ⟨rfl,⟨nd,rfl⟩⟩;refine ⟨_,rfl,?_⟩))
      go_roundg k1
      case measure=>have:=Ac.out;omega
      case rel=>exact ⟨(wrap64 (zL + 1)),(by first|rfl|(simp;done)|(simp [*];done)),H',⟨by have:=Ac.out;omega⟩,by repeat (first|exact Drawn0.refl _|apply Drawn0.step)⟩
     ·replace c7:=Bool.eq_false_iff.mpr c7
      subst c7
      have H1 : (some false) = some r:=by rw [if_neg (show ¬ (false = true) by decide)] at H;exact H
      clear H
      have H:=H1
      clear H1
      obtain rfl:=Option.some.inj H
      have p5 : 0 ≤ (zL : Int):=of_decide_eq_true (by first|(with_reducible assumption)|assumption)
      have q5 : zL < (a0.size : Int):=of_decide_eq_true (by first|(with_reducible assumption)|assumption)
      have hx5:=dG a0 zL
      replace p5:=eq_true p5
      replace q5:=eq_true q5
      go_wp2_with (first|((with_reducible refine bA (f:=69) rfl ?_);refine cO (some 16) rfl rfl Tryd.func69 (by kernel_rfl) rfl #[.int .u8 (bt a0 zL),.string a1] rfl (by (try simp only [List.map_toArray,List.map_cons,List.map_nil]);first|done|rfl|(simp only [List.length_drop,List.length_take];rfl)|(simp (disch:=first|omega|(simp at *;omega)) only [bY,bJ,dF];rfl)) ?_;(with_reducible refine (bH.calls k1 (bt a0 zL) a1 false _ A6.out).mono ?_);rintro e w' ⟨rfl,⟨nd,rfl⟩⟩;refine ⟨_,rfl,?_⟩))
      go_ret
      exact ⟨by first|rfl|(simp;done)|(simp [*];done),by repeat (first|exact Drawn0.refl _|apply Drawn0.step)⟩
    ·rw [if_neg c4] at H
     exact absurd H (by simp)
   ·rw [if_neg c3] at H
    have c3b0 : decide (zL < (a0.size : Int)) = false:=decide_eq_false c3
    clear c3
    obtain rfl:=Option.some.inj H
    go_wp2
    go_ret
    exact ⟨by first|rfl|(simp;done)|(simp [*];done),by repeat (first|exact Drawn0.refl _|apply Drawn0.step)⟩
def cK.f  : Option (ByteArray):=some (⟨#[97,98,99,100,101,102,103,104,105,106,107,108,109,110,111,112,113,114,115,116,117,118,119,120,121,122]⟩ : ByteArray)
set_option maxHeartbeats 8000000 in
set_option maxRecDepth 100000 in
theorem cK.calls  (r : ByteArray) (w : World) (h : cK.f  = some r) :
  Calls Tryd.prog 66 #[] w fun e w'=>e = .returned (.string r) ∧ Drawn0 w w':=by
 have H : (some (⟨#[97,98,99,100,101,102,103,104,105,106,107,108,109,110,111,112,113,114,115,116,117,118,119,120,121,122]⟩ : ByteArray)) = some r:=h
 clear h
 obtain rfl:=Option.some.inj H
 go_enter Tryd.func66,Tryd.ntmps66
 go_wp2
 go_ret
 exact ⟨by first|rfl|(simp;done)|(simp [*];done),by repeat (first|exact Drawn0.refl _|apply Drawn0.step)⟩
def bQ.f  : Option (ByteArray):=some (⟨#[48,49,50,51,52,53,54,55,56,57]⟩ : ByteArray)
set_option maxHeartbeats 8000000 in
set_option maxRecDepth 100000 in
theorem bQ.calls  (r : ByteArray) (w : World) (h : bQ.f  = some r) :
  Calls Tryd.prog 68 #[] w fun e w'=>e = .returned (.string r) ∧ Drawn0 w w':=by
 have H : (some (⟨#[48,49,50,51,52,53,54,55,56,57]⟩ : ByteArray)) = some r:=h
 clear h
 obtain rfl:=Option.some.inj H
 go_enter Tryd.func68,Tryd.ntmps68
 go_wp2
 go_ret
 exact ⟨by first|rfl|(simp;done)|(simp [*];done),by repeat (first|exact Drawn0.refl _|apply Drawn0.step)⟩
def bG.f (k : Nat) (a0 : ByteArray) : Option (Bool):=if (a0.size : Int) ≥ 1 then (if (a0.size : Int) ≤ 63 then ((cK.f).bind fun zQ=>((bQ.f).bind fun zO=>(if zQ.size + zO.size ≤ 9223372036854775807 then (if (zQ ++ zO).size + 1 ≤ 9223372036854775807 then ((bE.f k a0 ((zQ ++ zO) ++ (⟨#[45]⟩ : ByteArray))).bind fun zW=>(if zW = true then (if 0 < (a0.size : Int) then (if (bt a0 0) = 45 then (some false) else (if 0 ≤ (wrap64 ((a0.size : Int) - 1)) then (if (wrap64 ((a0.size : Int) - 1)) < (a0.size : Int) then (some ((bt a0 (wrap64 ((a0.size : Int) - 1))) != 45)) else (none)) else (none))) else (none)) else (some false))) else (none)) else (none)))) else (some false)) else (some false)
theorem bG.mono : ∀ a0 k,LeO (bG.f k a0) (bG.f (k + 1) a0):=by
 intro a0 k
 unfold bG.f
 repeat' first
   | (with_reducible exact bE.mono _ _ _)
   | (with_reducible exact LeO.refl _)
   | (with_reducible exact LeO.none _)
   | (with_reducible refine LeO.ite ?_ ?_)
   | (with_reducible refine LeO.bind ?_ (fun _=>?_))
   | exact bE.mono _ _ _
   | exact LeO.none _
   | refine LeO.ite ?_ ?_
   | refine LeO.bind ?_ (fun _=>?_)
set_option maxHeartbeats 8000000 in
set_option maxRecDepth 100000 in
theorem bG.calls (k : Nat) (a0 : ByteArray) (r : Bool) (w : World) (h : bG.f k a0 = some r) :
  Calls Tryd.prog 54 #[.string a0] w fun e w'=>e = .returned (.bool r) ∧ Drawn0 w w':=by
 have H : (if (a0.size : Int) ≥ 1 then (if (a0.size : Int) ≤ 63 then ((cK.f).bind fun zQ=>((bQ.f).bind fun zO=>(if zQ.size + zO.size ≤ 9223372036854775807 then (if (zQ ++ zO).size + 1 ≤ 9223372036854775807 then ((bE.f k a0 ((zQ ++ zO) ++ (⟨#[45]⟩ : ByteArray))).bind fun zW=>(if zW = true then (if 0 < (a0.size : Int) then (if (bt a0 0) = 45 then (some false) else (if 0 ≤ (wrap64 ((a0.size : Int) - 1)) then (if (wrap64 ((a0.size : Int) - 1)) < (a0.size : Int) then (some ((bt a0 (wrap64 ((a0.size : Int) - 1))) != 45)) else (none)) else (none))) else (none)) else (some false))) else (none)) else (none)))) else (some false)) else (some false)) = some r:=h
 clear h
 by_cases c2 : (a0.size : Int) ≥ 1
 ·rw [if_pos c2] at H
  have c2b0 : decide (1 ≤ (a0.size : Int)) = true:=decide_eq_true c2
  have c2b1 : decide (1 ≤ a0.size) = true:=decide_eq_true (by omega)
  clear c2
  by_cases c3 : (a0.size : Int) ≤ 63
  ·rw [if_pos c3] at H
   have c3b0 : decide ((a0.size : Int) ≤ 63) = true:=decide_eq_true c3
   have c3b1 : decide (a0.size ≤ 63) = true:=decide_eq_true (by omega)
   clear c3
   replace H:=Option.bind_eq_some_iff.mp H
   obtain ⟨zQ,Aq,H⟩:=H
   replace H : ((bQ.f).bind fun zO=>(if zQ.size + zO.size ≤ 9223372036854775807 then (if (zQ ++ zO).size + 1 ≤ 9223372036854775807 then ((bE.f k a0 ((zQ ++ zO) ++ (⟨#[45]⟩ : ByteArray))).bind fun zW=>(if zW = true then (if 0 < (a0.size : Int) then (if (bt a0 0) = 45 then (some false) else (if 0 ≤ (wrap64 ((a0.size : Int) - 1)) then (if (wrap64 ((a0.size : Int) - 1)) < (a0.size : Int) then (some ((bt a0 (wrap64 ((a0.size : Int) - 1))) != 45)) else (none)) else (none))) else (none)) else (some false))) else (none)) else (none))) = some r:=H
   have A4:=Aside0.mk Aq
   clear Aq
   replace H:=Option.bind_eq_some_iff.mp H
   obtain ⟨zO,Ar,H⟩:=H
   replace H : (if zQ.size + zO.size ≤ 9223372036854775807 then (if (zQ ++ zO).size + 1 ≤ 9223372036854775807 then ((bE.f k a0 ((zQ ++ zO) ++ (⟨#[45]⟩ : ByteArray))).bind fun zW=>(if zW = true then (if 0 < (a0.size : Int) then (if (bt a0 0) = 45 then (some false) else (if 0 ≤ (wrap64 ((a0.size : Int) - 1)) then (if (wrap64 ((a0.size : Int) - 1)) < (a0.size : Int) then (some ((bt a0 (wrap64 ((a0.size : Int) - 1))) != 45)) else (none)) else (none))) else (none)) else (some false))) else (none)) else (none)) = some r:=H
   have A5:=Aside0.mk Ar
   clear Ar
   by_cases c6 : zQ.size + zO.size ≤ 9223372036854775807
   ·rw [if_pos c6] at H
    have c6b0:=eq_true c6
    have c6b1 : decide (zQ.size + zO.size ≤ 9223372036854775807) = true:=decide_eq_true c6
    try have c6b2 : (9223372036854775807 < zQ.size + zO.size) = False:=eq_false (Nat.not_lt.2 c6)
    by_cases c7 : (zQ ++ zO).size + 1 ≤ 9223372036854775807
    ·rw [if_pos c7] at H
     have c7b0:=eq_true c7
     have c7b1 : decide ((zQ ++ zO).size + 1 ≤ 9223372036854775807) = true:=decide_eq_true c7
     try have c7b2 : (9223372036854775807 < (zQ ++ zO).size + 1) = False:=eq_false (Nat.not_lt.2 c7)
     have c7s:=c7
     try simp only [ByteArray.size_append] at c7s
     try have c7s0:=eq_false (Nat.not_lt.2 c7s)
     try have c7s1:=eq_true c7s
     replace H:=Option.bind_eq_some_iff.mp H
     obtain ⟨zW,Bj,H⟩:=H
     replace H : (if zW = true then (if 0 < (a0.size : Int) then (if (bt a0 0) = 45 then (some false) else (if 0 ≤ (wrap64 ((a0.size : Int) - 1)) then (if (wrap64 ((a0.size : Int) - 1)) < (a0.size : Int) then (some ((bt a0 (wrap64 ((a0.size : Int) - 1))) != 45)) else (none)) else (none))) else (none)) else (some false)) = some r:=H
     have A8:=Aside0.mk Bj
     clear Bj
     by_cases c9 : zW = true
     ·subst c9
      have H1 : (if 0 < (a0.size : Int) then (if (bt a0 0) = 45 then (some false) else (if 0 ≤ (wrap64 ((a0.size : Int) - 1)) then (if (wrap64 ((a0.size : Int) - 1)) < (a0.size : Int) then (some ((bt a0 (wrap64 ((a0.size : Int) - 1))) != 45)) else (none)) else (none))) else (none)) = some r:=by rw [if_pos rfl] at H;exact H
      clear H
      have H:=H1
      clear H1
      by_cases c10 : 0 < (a0.size : Int)
      ·rw [if_pos c10] at H
       have c10b0 : decide (0 < (a0.size : Int)) = true:=decide_eq_true c10
       have c10b1 : decide (0 < a0.size) = true:=decide_eq_true (by omega)
       clear c10
       by_cases c12 : (bt a0 0) = 45
       ·rw [if_pos c12] at H
        have c12b0 : ((bt a0 0) == 45) = true:=beq_iff_eq.mpr c12
        have c12b1 : ((bt a0 0) != 45) = false:=bne_eq_false_iff_eq.mpr c12
        clear c12
        obtain rfl:=Option.some.inj H
        go_enter Tryd.func54,Tryd.ntmps54
        go_wp2_with (first|(go_at_call 66;(with_reducible refine (cK.calls  zQ _ A4.out).mono ?_);rintro e w' ⟨rfl,⟨nd,rfl⟩⟩)|(go_at_call 68;(with_reducible refine (bQ.calls  zO _ A5.out).mono ?_);rintro e w' ⟨rfl,⟨nd,rfl⟩⟩)|(go_at_call 65;(with_reducible refine (bE.calls k a0 ((zQ ++ zO) ++ (⟨#[45]⟩ : ByteArray)) true _ A8.out).mono ?_);rintro e w' ⟨rfl,⟨nd,rfl⟩⟩;have Af : 0 ≤ (0 : Int):=(by omega);have Ad : 0 < a0.size:=(by have : (0 : Int) < (a0.size : Int):=of_decide_eq_true (by first|(with_reducible assumption)|assumption);omega);have Ak : ∀ h : 0 < a0.size,((a0[0]'h).toNat : Int) = bt a0 0:=dG a0 0;clear Af;have AZ : (0 < (a0.size : Int)) = True:=eq_true (of_decide_eq_true (by first|(with_reducible assumption)|assumption));replace Ad:=eq_true Ad))
        go_ret
        exact ⟨by first|rfl|(simp;done)|(simp [*];done),by repeat (first|exact Drawn0.refl _|apply Drawn0.step)⟩
       ·rw [if_neg c12] at H
        have c12b0 : ((bt a0 0) == 45) = false:=beq_eq_false_iff_ne.mpr c12
        have c12b1 : ((bt a0 0) != 45) = true:=bne_iff_ne.mpr c12
        obtain ⟨zU,zV⟩ : ∃ j_ : Int,(wrap64 ((a0.size : Int) - 1)) = j_:=⟨_,rfl⟩
        replace H : (if 0 ≤ (zU) then (if (zU) < (a0.size : Int) then (some ((bt a0 (zU)) != 45)) else (none)) else (none)) = some r:=by first|(rw [zV] at H;exact H)|(simp only [zV] at H ⊢;exact H)
        (try rw [zV] at A4)
        (try rw [zV] at A5)
        (try rw [zV] at A8)
        have hji13w : (IntKind.i64.wrap ((a0.size : Int) - 1)) = zU:=(bI _).trans zV
        by_cases c14 : 0 ≤ (zU)
        ·rw [if_pos c14] at H
         have c14b0 : decide (0 ≤ (zU)) = true:=decide_eq_true c14
         clear c14
         by_cases c15 : (zU) < (a0.size : Int)
         ·rw [if_pos c15] at H
          have c15b0 : decide ((zU) < (a0.size : Int)) = true:=decide_eq_true c15
          clear c15
          obtain rfl:=Option.some.inj H
          go_enter Tryd.func54,Tryd.ntmps54
          go_wp2_with (first|(go_at_call 66;(with_reducible refine (cK.calls  zQ _ A4.out).mono ?_);rintro e w' ⟨rfl,⟨nd,rfl⟩⟩)|(go_at_call 68;(with_reducible refine (bQ.calls  zO _ A5.out).mono ?_);rintro e w' ⟨rfl,⟨nd,rfl⟩⟩)|(go_at_call 65;(with_reducible refine (bE.calls k a0 ((zQ ++ zO) ++ (⟨#[45]⟩ : ByteArray)) true _ A8.out).mono ?_);rintro e w' ⟨rfl,⟨nd,rfl⟩⟩;have Af : 0 ≤ (0 : Int):=(by omega);have Ad : 0 < a0.size:=(by have : (0 : Int) < (a0.size : Int):=of_decide_eq_true (by first|(with_reducible assumption)|assumption);omega);have Ak : ∀ h : 0 < a0.size,((a0[0]'h).toNat : Int) = bt a0 0:=dG a0 0;clear Af;have AZ : (0 < (a0.size : Int)) = True:=eq_true (of_decide_eq_true (by first|(with_reducible assumption)|assumption));replace Ad:=eq_true Ad;have p16 : 0 ≤ ((zU) : Int):=of_decide_eq_true (by first|(with_reducible assumption)|assumption);have q16 : (zU) < (a0.size : Int):=of_decide_eq_true (by first|(with_reducible assumption)|assumption);have hx16:=dG a0 (zU);replace p16:=eq_true p16;replace q16:=eq_true q16))
          go_ret
          exact ⟨by first|rfl|(simp;done)|(simp only [← zV] <;> (first|rfl|simp))|(simp [*];done),by repeat (first|exact Drawn0.refl _|apply Drawn0.step)⟩
         ·rw [if_neg c15] at H
          exact absurd H (by simp)
        ·rw [if_neg c14] at H
         exact absurd H (by simp)
      ·rw [if_neg c10] at H
       exact absurd H (by simp)
     ·replace c9:=Bool.eq_false_iff.mpr c9
      subst c9
      have H1 : (some false) = some r:=by rw [if_neg (show ¬ (false = true) by decide)] at H;exact H
      clear H
      have H:=H1
      clear H1
      obtain rfl:=Option.some.inj H
      go_enter Tryd.func54,Tryd.ntmps54
      go_wp2_with (first|(go_at_call 66;(with_reducible refine (cK.calls  zQ _ A4.out).mono ?_);rintro e w' ⟨rfl,⟨nd,rfl⟩⟩)|(go_at_call 68;(with_reducible refine (bQ.calls  zO _ A5.out).mono ?_);rintro e w' ⟨rfl,⟨nd,rfl⟩⟩)|(go_at_call 65;(with_reducible refine (bE.calls k a0 ((zQ ++ zO) ++ (⟨#[45]⟩ : ByteArray)) false _ A8.out).mono ?_);rintro e w' ⟨rfl,⟨nd,rfl⟩⟩))
      go_ret
      exact ⟨by first|rfl|(simp;done)|(simp [*];done),by repeat (first|exact Drawn0.refl _|apply Drawn0.step)⟩
    ·rw [if_neg c7] at H
     exact absurd H (by simp)
   ·rw [if_neg c6] at H
    exact absurd H (by simp)
  ·rw [if_neg c3] at H
   have c3b0 : decide ((a0.size : Int) ≤ 63) = false:=decide_eq_false c3
   have c3b1 : decide (a0.size ≤ 63) = false:=decide_eq_false (by omega)
   clear c3
   obtain rfl:=Option.some.inj H
   go_enter Tryd.func54,Tryd.ntmps54
   go_wp2
   go_ret
   exact ⟨by first|rfl|(simp;done)|(simp [*];done),by repeat (first|exact Drawn0.refl _|apply Drawn0.step)⟩
 ·rw [if_neg c2] at H
  have c2b0 : decide (1 ≤ (a0.size : Int)) = false:=decide_eq_false c2
  have c2b1 : decide (1 ≤ a0.size) = false:=decide_eq_false (by omega)
  clear c2
  obtain rfl:=Option.some.inj H
  go_enter Tryd.func54,Tryd.ntmps54
  go_wp2
  go_ret
  exact ⟨by first|rfl|(simp;done)|(simp [*];done),by repeat (first|exact Drawn0.refl _|apply Drawn0.step)⟩
def bW.l0 : Nat → ByteArray → List ByteArray → Int → Int → Option (List ByteArray)
 | 0,_,_,_,_=>none
 | k + 1,x0,x3,x4,x5=>if x5 ≤ (x0.size : Int) then (if x5 = (x0.size : Int) then (if 0 ≤ x4 then (if x4 ≤ x5 then (if x3.length < 8796093022208 then (bW.l0 k x0 (x3 ++ [x0.extract (x4 : Int).toNat (x5 : Int).toNat]) (wrap64 (x5 + 1)) (wrap64 (x5 + 1))) else (none)) else (none)) else (none)) else (if 0 ≤ x5 then (if x5 < (x0.size : Int) then (if (bt x0 x5) = 46 then (if 0 ≤ x4 then (if x4 ≤ x5 then (if x3.length < 8796093022208 then (bW.l0 k x0 (x3 ++ [x0.extract (x4 : Int).toNat (x5 : Int).toNat]) (wrap64 (x5 + 1)) (wrap64 (x5 + 1))) else (none)) else (none)) else (none)) else (bW.l0 k x0 x3 x4 (wrap64 (x5 + 1)))) else (none)) else (none))) else (some x3)
def bW.f (k : Nat) (a0 : ByteArray) : Option (List ByteArray):=bW.l0 k a0 ([] : List ByteArray) 0 0
theorem bW.dX : ∀ k,(∀ y0 y1 y2 y3,LeO (bW.l0 k y0 y1 y2 y3) (bW.l0 (k + 1) y0 y1 y2 y3))
 | 0=>fun _ _ _ _ r h=>by simp [bW.l0] at h
 | k + 1=>by
  have zY:=bW.dX k
  ·intro y0 y1 y2 y3
   unfold bW.l0
   repeat' first
   | (with_reducible exact zY _ _ _ _)
   | (with_reducible exact LeO.refl _)
   | (with_reducible exact LeO.none _)
   | (with_reducible refine LeO.ite ?_ ?_)
   | (with_reducible refine LeO.bind ?_ (fun _=>?_))
   | exact zY _ _ _ _
   | exact LeO.none _
   | refine LeO.ite ?_ ?_
   | refine LeO.bind ?_ (fun _=>?_)
theorem bW.mono : ∀ a0 k,LeO (bW.f k a0) (bW.f (k + 1) a0):=by
 intro a0 k
 have zY:=bW.dX k
 unfold bW.f
 repeat' first
   | (with_reducible exact zY _ _ _ _)
   | (with_reducible exact LeO.refl _)
   | (with_reducible exact LeO.none _)
   | (with_reducible refine LeO.ite ?_ ?_)
   | (with_reducible refine LeO.bind ?_ (fun _=>?_))
   | exact zY _ _ _ _
   | exact LeO.none _
   | refine LeO.ite ?_ ?_
   | refine LeO.bind ?_ (fun _=>?_)
set_option maxHeartbeats 8000000 in
set_option maxRecDepth 100000 in
theorem bW.calls (k : Nat) (a0 : ByteArray) (r : List ByteArray) (w : World) (h : bW.f k a0 = some r) :
  Calls Tryd.prog 64 #[.string a0] w fun e w'=>∃ Bl : Value,e = .returned (Bl) ∧ Kd.R Kd.string 9 w' w.heap.size (fun _=>True) Bl r ∧ Below w.heap.size w w':=by
 have HB:=Aside0.mk (Below.refl w.heap.size w)
 have H : (bW.l0 k a0 ([] : List ByteArray) 0 0) = some r:=h
 clear h
 have H':=Aside0.mk H
 clear H
 go_enter Tryd.func64,Tryd.ntmps64
 go_wp2
 go_loopg [3,4,5] k (fun kq v3 v4 v5 w'=>∃ (zX : List ByteArray) (zN : Int) (zL : Int),v4 = .int .i64 zN ∧ v5 = .int .i64 zL ∧ Aside0 (bW.l0 kq a0 zX zN zL = some r) ∧ Aside0 (kq ≤ k) ∧ Aside0 (Kd.R Kd.string 9 w' w.heap.size (fun _=>True) v3 zX) ∧ Aside0 (Below w.heap.size w w'))
 case atStart=>exact ⟨(([] : List ByteArray)),(0),(0),(by first|rfl|(simp;done)|(simp [*];done)),(by first|rfl|(simp;done)|(simp [*];done)),H',⟨Nat.le_refl _⟩,⟨by first|exact Kd.jl _ _ _ _ _|exact Kd.kV _ _ _ _ _|exact Kd.kW _ _ _ _ _|exact Kd.kR _ _ _ _ _|exact Kd.iU _ _ _ _ _⟩,⟨by repeat (first|(with_reducible first|exact HB.out|apply aD|apply ak|apply aC)|exact HB.out)⟩⟩
 case round =>
  clear H'
  obtain ⟨zX,zN,zL,rfl,rfl,HA,Ac,zS,HB⟩:=hrel
  cases gk with
  | zero=>exact absurd HA.out (by simp [bW.l0])
  | succ k1 =>
   have H:=HA.out
   clear HA
   simp only [bW.l0] at H
   by_cases c2 : zL ≤ (a0.size : Int)
   ·rw [if_pos c2] at H
    have c2b0 : decide (zL ≤ (a0.size : Int)) = true:=decide_eq_true c2
    clear c2
    by_cases c3 : zL = (a0.size : Int)
    ·rw [if_pos c3] at H
     have c3b0 : (zL == (a0.size : Int)) = true:=beq_iff_eq.mpr c3
     have c3b1 : (zL != (a0.size : Int)) = false:=bne_eq_false_iff_eq.mpr c3
     clear c3
     by_cases c4 : 0 ≤ zN
     ·rw [if_pos c4] at H
      have c4b0:=eq_true c4
      have c4b1 : decide (0 ≤ zN) = true:=decide_eq_true c4
      clear c4
      by_cases c5 : zN ≤ zL
      ·rw [if_pos c5] at H
       have c5b0:=eq_true c5
       have c5b1 : decide (zN ≤ zL) = true:=decide_eq_true c5
       clear c5
       have c6b0:=eq_true (of_decide_eq_true (by first|(with_reducible assumption)|assumption) : zL ≤ (a0.size : Int))
       by_cases c7 : zX.length < 8796093022208
       ·rw [if_pos c7] at H
        have A9:=Aside0.mk c7
        clear c7
        obtain ⟨Av,zZ⟩ : ∃ y_ : List ByteArray,y_ = (zX ++ [a0.extract (zN : Int).toNat (zL : Int).toNat]):=⟨_,rfl⟩
        replace H : (bW.l0 k1 a0 Av (wrap64 (zL + 1)) (wrap64 (zL + 1))) = some r:=by first|(rw [zZ];with_reducible exact H)|(have Al:=(Option.bind_some _ _).symm.trans H;rw [zZ];with_reducible exact Al)|(have Al:=(Option.bind_some _ _).symm.trans H;with_reducible exact Al)|with_reducible exact H|(rw [zZ];exact H)|exact H
        have Aw:=Aside0.mk zZ
        clear zZ
        have H':=Aside0.mk H
        clear H
        go_wp2_with (first|((with_reducible refine gU (b:=.append) (xs:=#[.tmp 22,.tmp 27]) rfl ?_);at_builtin;refine Kd.jN Kd.string (w0:=w) w.heap.size rfl (.tmp 22) (.tmp 27) 77 9 (.string ⟨#[]⟩) 16 rfl Tryd.underlying77 vV rfl (by decide) (by omega) u3 zX (a0.extract (zN : Int).toNat (zL : Int).toNat) [.string (a0.extract (zN : Int).toNat (zL : Int).toNat)] (fun _=>True) (fun _=>False) rfl rfl ?aP (fun _ hk=>hk.elim) ?aF ?aO ?aB ?aS ?aL ?_;(case aP=>exact rfl);(case aB=>exact (by repeat (first|(with_reducible first|exact HB.out|apply aD|apply ak|apply aC)|exact HB.out)));(case aF=>exact (fun _ _=>trivial));(case aO=>exact (by (with_reducible repeat (first|apply Kd.fH|apply Kd.fI|apply Kd.gy));exact zS.out));(case aS=>exact (aW (by repeat (first|(with_reducible first|exact HB.out|apply aD|apply ak|apply aC)|exact HB.out))));(case aL=>have:=A9.out;omega);intro v182 w8 ho hb hg hat;rw [← Aw.out] at ho;have Ai:=Aside0.mk (hb);have Aj:=Aside0.mk (ho);clear HB;clear zS;have HB:=Ai;have Ay:=Aj;clear Ai Aj;clear ho hb hg hat))
        go_roundg k1
        case measure=>have:=Ac.out;omega
        case rel=>exact ⟨(Av),(wrap64 (zL + 1)),(wrap64 (zL + 1)),(by first|rfl|(simp;done)|(simp [*];done)),(by first|rfl|(simp;done)|(simp [*];done)),H',⟨by have:=Ac.out;omega⟩,⟨by (with_reducible repeat (first|apply Kd.fH|apply Kd.fI|apply Kd.gy));exact Ay.out⟩,⟨by repeat (first|(with_reducible first|exact HB.out|apply aD|apply ak|apply aC)|exact HB.out)⟩⟩
       ·rw [if_neg c7] at H
        exact absurd H (by simp)
      ·rw [if_neg c5] at H
       exact absurd H (by simp)
     ·rw [if_neg c4] at H
      exact absurd H (by simp)
    ·rw [if_neg c3] at H
     have c3b0 : (zL == (a0.size : Int)) = false:=beq_eq_false_iff_ne.mpr c3
     have c3b1 : (zL != (a0.size : Int)) = true:=bne_iff_ne.mpr c3
     by_cases c9 : 0 ≤ zL
     ·rw [if_pos c9] at H
      have c9b0 : decide (0 ≤ zL) = true:=decide_eq_true c9
      clear c9
      by_cases c10 : zL < (a0.size : Int)
      ·rw [if_pos c10] at H
       have c10b0 : decide (zL < (a0.size : Int)) = true:=decide_eq_true c10
       clear c10
       by_cases c12 : (bt a0 zL) = 46
       ·rw [if_pos c12] at H
        have c12b0 : ((bt a0 zL) == 46) = true:=beq_iff_eq.mpr c12
        have c12b1 : ((bt a0 zL) != 46) = false:=bne_eq_false_iff_eq.mpr c12
        clear c12
        by_cases c13 : 0 ≤ zN
        ·rw [if_pos c13] at H
         have c13b0:=eq_true c13
         have c13b1 : decide (0 ≤ zN) = true:=decide_eq_true c13
         clear c13
         by_cases c14 : zN ≤ zL
         ·rw [if_pos c14] at H
          have c14b0:=eq_true c14
          have c14b1 : decide (zN ≤ zL) = true:=decide_eq_true c14
          clear c14
          have c15b0:=eq_true (of_decide_eq_true (by first|(with_reducible assumption)|assumption) : zL ≤ (a0.size : Int))
          by_cases c16 : zX.length < 8796093022208
          ·rw [if_pos c16] at H
           have Az:=Aside0.mk c16
           clear c16
           obtain ⟨AA,z8⟩ : ∃ y_ : List ByteArray,y_ = (zX ++ [a0.extract (zN : Int).toNat (zL : Int).toNat]):=⟨_,rfl⟩
           replace H : (bW.l0 k1 a0 AA (wrap64 (zL + 1)) (wrap64 (zL + 1))) = some r:=by first|(rw [z8];with_reducible exact H)|(have Al:=(Option.bind_some _ _).symm.trans H;rw [z8];with_reducible exact Al)|(have Al:=(Option.bind_some _ _).symm.trans H;with_reducible exact Al)|with_reducible exact H|(rw [z8];exact H)|exact H
           have AB:=Aside0.mk z8
           clear z8
           have H':=Aside0.mk H
           clear H
           have Af : 0 ≤ (zL : Int):=of_decide_eq_true (by first|(with_reducible assumption)|assumption)
           have Ad : zL < (a0.size : Int):=of_decide_eq_true (by first|(with_reducible assumption)|assumption)
           have Ak:=dG a0 zL
           replace Af:=eq_true Af
           replace Ad:=eq_true Ad
           go_wp2_with (first|((with_reducible refine gU (b:=.append) (xs:=#[.tmp 22,.tmp 27]) rfl ?_);at_builtin;refine Kd.jN Kd.string (w0:=w) w.heap.size rfl (.tmp 22) (.tmp 27) 77 9 (.string ⟨#[]⟩) 16 rfl Tryd.underlying77 vV rfl (by decide) (by omega) u3 zX (a0.extract (zN : Int).toNat (zL : Int).toNat) [.string (a0.extract (zN : Int).toNat (zL : Int).toNat)] (fun _=>True) (fun _=>False) rfl rfl ?aP (fun _ hk=>hk.elim) ?aF ?aO ?aB ?aS ?aL ?_;(case aP=>exact rfl);(case aB=>exact (by repeat (first|(with_reducible first|exact HB.out|apply aD|apply ak|apply aC)|exact HB.out)));(case aF=>exact (fun _ _=>trivial));(case aO=>exact (by (with_reducible repeat (first|apply Kd.fH|apply Kd.fI|apply Kd.gy));exact zS.out));(case aS=>exact (aW (by repeat (first|(with_reducible first|exact HB.out|apply aD|apply ak|apply aC)|exact HB.out))));(case aL=>have:=Az.out;omega);intro Bq BF ho hb hg hat;rw [← AB.out] at ho;have Ai:=Aside0.mk (hb);have Aj:=Aside0.mk (ho);clear HB;clear zS;have HB:=Ai;have AJ:=Aj;clear Ai Aj;clear ho hb hg hat))
           go_roundg k1
           case measure=>have:=Ac.out;omega
           case rel=>exact ⟨(AA),(wrap64 (zL + 1)),(wrap64 (zL + 1)),(by first|rfl|(simp;done)|(simp [*];done)),(by first|rfl|(simp;done)|(simp [*];done)),H',⟨by have:=Ac.out;omega⟩,⟨by (with_reducible repeat (first|apply Kd.fH|apply Kd.fI|apply Kd.gy));exact AJ.out⟩,⟨by repeat (first|(with_reducible first|exact HB.out|apply aD|apply ak|apply aC)|exact HB.out)⟩⟩
          ·rw [if_neg c16] at H
           exact absurd H (by simp)
         ·rw [if_neg c14] at H
          exact absurd H (by simp)
        ·rw [if_neg c13] at H
         exact absurd H (by simp)
       ·rw [if_neg c12] at H
        have c12b0 : ((bt a0 zL) == 46) = false:=beq_eq_false_iff_ne.mpr c12
        have c12b1 : ((bt a0 zL) != 46) = true:=bne_iff_ne.mpr c12
        have H':=Aside0.mk H
        clear H
        have Af : 0 ≤ (zL : Int):=of_decide_eq_true (by first|(with_reducible assumption)|assumption)
        have Ad : zL < (a0.size : Int):=of_decide_eq_true (by first|(with_reducible assumption)|assumption)
        have Ak:=dG a0 zL
        replace Af:=eq_true Af
        replace Ad:=eq_true Ad
        go_wp2
        go_roundg k1
        case measure=>have:=Ac.out;omega
        case rel=>exact ⟨(zX),(zN),(wrap64 (zL + 1)),(by first|rfl|(simp;done)|(simp [*];done)),(by first|rfl|(simp;done)|(simp [*];done)),H',⟨by have:=Ac.out;omega⟩,⟨by (with_reducible repeat (first|apply Kd.fH|apply Kd.fI|apply Kd.gy));exact zS.out⟩,⟨by repeat (first|(with_reducible first|exact HB.out|apply aD|apply ak|apply aC)|exact HB.out)⟩⟩
      ·rw [if_neg c10] at H
       exact absurd H (by simp)
     ·rw [if_neg c9] at H
      exact absurd H (by simp)
   ·rw [if_neg c2] at H
    have c2b0 : decide (zL ≤ (a0.size : Int)) = false:=decide_eq_false c2
    clear c2
    obtain rfl:=Option.some.inj H
    go_wp2
    go_ret
    exact ⟨_,by first|rfl|(simp [aY,aZ] <;> rfl)|(simp [*,aY,aZ] <;> rfl),by (with_reducible repeat (first|apply Kd.fH|apply Kd.fI|apply Kd.gy));exact zS.out,by repeat (first|(with_reducible first|exact HB.out|apply aD|apply ak|apply aC)|exact HB.out)⟩
def bD.l0 : Nat → ByteArray → List ByteArray → Int → Option (Bool)
 | 0,_,_,_=>none
 | k + 1,x0,x3,x4=>if x4 < (x3.length : Int) then (if 0 ≤ x4 then ((bG.f k (mK ByteArray.empty x3 x4)).bind fun Ag=>(if Ag = true then (bD.l0 k x0 x3 (wrap64 (x4 + 1))) else (some false))) else (none)) else (some (decide ((x0.size : Int) ≤ 253)))
def bD.f (k : Nat) (a0 : ByteArray) : Option (Bool):=(bW.f k a0).bind fun zR=>(bD.l0 k a0 zR 0)
theorem bD.dX : ∀ k,(∀ y0 y1 y2,LeO (bD.l0 k y0 y1 y2) (bD.l0 (k + 1) y0 y1 y2))
 | 0=>fun _ _ _ r h=>by simp [bD.l0] at h
 | k + 1=>by
  have zY:=bD.dX k
  ·intro y0 y1 y2
   unfold bD.l0
   repeat' first
   | (with_reducible exact zY _ _ _)
   | (with_reducible exact bG.mono _ _)
   | (with_reducible exact bW.mono _ _)
   | (with_reducible exact LeO.refl _)
   | (with_reducible exact LeO.none _)
   | (with_reducible refine LeO.ite ?_ ?_)
   | (with_reducible refine LeO.bind ?_ (fun _=>?_))
   | exact zY _ _ _
   | exact bG.mono _ _
   | exact bW.mono _ _
   | exact LeO.none _
   | refine LeO.ite ?_ ?_
   | refine LeO.bind ?_ (fun _=>?_)
theorem bD.mono : ∀ a0 k,LeO (bD.f k a0) (bD.f (k + 1) a0):=by
 intro a0 k
 have zY:=bD.dX k
 unfold bD.f
 repeat' first
   | (with_reducible exact zY _ _ _)
   | (with_reducible exact bG.mono _ _)
   | (with_reducible exact bW.mono _ _)
   | (with_reducible exact LeO.refl _)
   | (with_reducible exact LeO.none _)
   | (with_reducible refine LeO.ite ?_ ?_)
   | (with_reducible refine LeO.bind ?_ (fun _=>?_))
   | exact zY _ _ _
   | exact bG.mono _ _
   | exact bW.mono _ _
   | exact LeO.none _
   | refine LeO.ite ?_ ?_
   | refine LeO.bind ?_ (fun _=>?_)
set_option maxHeartbeats 8000000 in
set_option maxRecDepth 100000 in
theorem bD.calls (k : Nat) (a0 : ByteArray) (r : Bool) (w : World) (h : bD.f k a0 = some r) :
  Calls Tryd.prog 35 #[.string a0] w fun e w'=>e = .returned (.bool r) ∧ Below w.heap.size w w':=by
 have HB:=Aside0.mk (Below.refl w.heap.size w)
 have H : ((bW.f k a0).bind fun zR=>(bD.l0 k a0 zR 0)) = some r:=h
 clear h
 replace H:=Option.bind_eq_some_iff.mp H
 obtain ⟨zR,Bn,H⟩:=H
 replace H : (bD.l0 k a0 zR 0) = some r:=H
 have A2:=Aside0.mk Bn
 clear Bn
 have H':=Aside0.mk H
 clear H
 go_enter Tryd.func35,Tryd.ntmps35
 go_wp2_with (first|((with_reducible refine bA (f:=64) rfl ?_);refine cO (some 6) rfl rfl Tryd.func64 (by kernel_rfl) rfl #[.string a0] rfl (by (try simp only [List.map_toArray,List.map_cons,List.map_nil]);first|done|rfl|(simp only [List.length_drop,List.length_take];rfl)|(simp (disch:=first|omega|(simp at *;omega)) only [bY,bJ,dF];rfl)) ?_;(with_reducible refine (bW.calls k a0 zR _ A2.out).mono ?_);rintro e w3 ⟨Bf,rfl,ho0,hb⟩;refine ⟨_,rfl,?_⟩;have Ai:=Aside0.mk (Kd.mD ho0 (aW (by repeat (first|(with_reducible first|exact HB.out|apply aD|apply ak|apply aC)|exact HB.out))));have Aj:=Aside0.mk (aU (by repeat (first|(with_reducible first|exact HB.out|apply aD|apply ak|apply aC)|exact HB.out)) hb);clear HB;have AL:=Ai;have HB:=Aj;clear Ai Aj;(try clear hb);(try clear hb2);(try clear hk);(try clear hi);(try clear ho0)))
 go_loopg [4] k (fun kq v4 w'=>∃ (zN : Int),v4 = .int .i64 zN ∧ Aside0 (bD.l0 kq a0 zR zN = some r) ∧ Aside0 (kq ≤ k) ∧ Aside0 (Kd.R Kd.string 9 w' w.heap.size (fun _=>True) Bf zR) ∧ Aside0 (Below w.heap.size w w'))
 case atStart=>exact ⟨(0),(by first|rfl|(simp;done)|(simp [*];done)),H',⟨Nat.le_refl _⟩,⟨by (with_reducible repeat (first|apply Kd.fH|apply Kd.fI|apply Kd.gy));exact AL.out⟩,⟨by repeat (first|(with_reducible first|exact HB.out|apply aD|apply ak|apply aC)|exact HB.out)⟩⟩
 case round =>
  clear H'
  try clear p2
  try clear c3
  obtain ⟨zN,rfl,HA,Ac,zS,HB⟩:=hrel
  cases gk with
  | zero=>exact absurd HA.out (by simp [bD.l0])
  | succ k1 =>
   have H:=HA.out
   clear HA
   simp only [bD.l0] at H
   by_cases c4 : zN < (zR.length : Int)
   ·rw [if_pos c4] at H
    have c4b0 : decide (zN < (zR.length : Int)) = true:=decide_eq_true c4
    clear c4
    by_cases c5 : 0 ≤ zN
    ·rw [if_pos c5] at H
     have c5b0 : decide (0 ≤ zN) = true:=decide_eq_true c5
     clear c5
     replace H:=Option.bind_eq_some_iff.mp H
     obtain ⟨Ag,Ap,H⟩:=H
     replace H : (if Ag = true then (bD.l0 k1 a0 zR (wrap64 (zN + 1))) else (some false)) = some r:=H
     have A6:=Aside0.mk Ap
     clear Ap
     by_cases c7 : Ag = true
     ·subst c7
      have H1 : (bD.l0 k1 a0 zR (wrap64 (zN + 1))) = some r:=by rw [if_pos rfl] at H;exact H
      clear H
      have H:=H1
      clear H1
      have H':=Aside0.mk H
      clear H
      obtain ⟨BG,BH,Br⟩:=Kd.iH zS.out
      subst Br
      have Aa : 0 ≤ (zN : Int):=of_decide_eq_true (by first|(with_reducible assumption)|assumption)
      have Ab : zN < (zR.length : Int):=of_decide_eq_true (by first|(with_reducible assumption)|assumption)
      obtain ⟨AO,e190,Ah⟩:=Kd.nZ (Kd.jO zS.out).2.2 zN Aa Ab
      cases e190
      replace Aa:=eq_true Aa
      replace Ab:=eq_true Ab
      go_wp2_with (first|((with_reducible refine bA (f:=54) rfl ?_);refine cO (some 17) rfl rfl Tryd.func54 (by kernel_rfl) rfl #[.string (mK ByteArray.empty zR zN)] rfl (by (try simp only [List.map_toArray,List.map_cons,List.map_nil]);first|done|rfl|(simp only [List.length_drop,List.length_take];rfl)|(simp (disch:=first|omega|(simp at *;omega)) only [bY,bJ,dF];rfl)) ?_;(with_reducible refine (bG.calls k1 (mK ByteArray.empty zR zN) true _ A6.out).mono ?_);rintro e w' ⟨rfl,⟨nd,rfl⟩⟩;refine ⟨_,rfl,?_⟩))
      go_roundg k1
      case measure=>have:=Ac.out;omega
      case rel=>exact ⟨(wrap64 (zN + 1)),(by first|rfl|(simp;done)|(simp [*];done)),H',⟨by have:=Ac.out;omega⟩,⟨by (with_reducible repeat (first|apply Kd.fH|apply Kd.fI|apply Kd.gy));exact zS.out⟩,⟨by repeat (first|(with_reducible first|exact HB.out|apply aD|apply ak|apply aC)|exact HB.out)⟩⟩
     ·replace c7:=Bool.eq_false_iff.mpr c7
      subst c7
      have H1 : (some false) = some r:=by rw [if_neg (show ¬ (false = true) by decide)] at H;exact H
      clear H
      have H:=H1
      clear H1
      obtain rfl:=Option.some.inj H
      obtain ⟨BI,BJ,Bt⟩:=Kd.iH zS.out
      subst Bt
      have Aa : 0 ≤ (zN : Int):=of_decide_eq_true (by first|(with_reducible assumption)|assumption)
      have Ab : zN < (zR.length : Int):=of_decide_eq_true (by first|(with_reducible assumption)|assumption)
      obtain ⟨AO,e190,Ah⟩:=Kd.nZ (Kd.jO zS.out).2.2 zN Aa Ab
      cases e190
      replace Aa:=eq_true Aa
      replace Ab:=eq_true Ab
      go_wp2_with (first|((with_reducible refine bA (f:=54) rfl ?_);refine cO (some 17) rfl rfl Tryd.func54 (by kernel_rfl) rfl #[.string (mK ByteArray.empty zR zN)] rfl (by (try simp only [List.map_toArray,List.map_cons,List.map_nil]);first|done|rfl|(simp only [List.length_drop,List.length_take];rfl)|(simp (disch:=first|omega|(simp at *;omega)) only [bY,bJ,dF];rfl)) ?_;(with_reducible refine (bG.calls k1 (mK ByteArray.empty zR zN) false _ A6.out).mono ?_);rintro e w' ⟨rfl,⟨nd,rfl⟩⟩;refine ⟨_,rfl,?_⟩))
      go_ret
      exact ⟨by first|rfl|(simp [aY,aZ] <;> rfl)|(simp [*,aY,aZ] <;> rfl),by repeat (first|(with_reducible first|exact HB.out|apply aD|apply ak|apply aC)|exact HB.out)⟩
    ·rw [if_neg c5] at H
     exact absurd H (by simp)
   ·rw [if_neg c4] at H
    have c4b0 : decide (zN < (zR.length : Int)) = false:=decide_eq_false c4
    clear c4
    obtain rfl:=Option.some.inj H
    obtain ⟨Bu,Bv,Bg⟩:=Kd.iH zS.out
    subst Bg
    go_wp2
    go_ret
    exact ⟨by first|rfl|(simp [aY,aZ] <;> rfl)|(simp [*,aY,aZ] <;> rfl),by repeat (first|(with_reducible first|exact HB.out|apply aD|apply ak|apply aC)|exact HB.out)⟩
def eB.f  : Option (ByteArray):=some (⟨#[65,66,67,68,69,70,71,72,73,74,75,76,77,78,79,80,81,82,83,84,85,86,87,88,89,90]⟩ : ByteArray)
set_option maxHeartbeats 8000000 in
set_option maxRecDepth 100000 in
theorem eB.calls  (r : ByteArray) (w : World) (h : eB.f  = some r) :
  Calls Tryd.prog 67 #[] w fun e w'=>e = .returned (.string r) ∧ Drawn0 w w':=by
 have H : (some (⟨#[65,66,67,68,69,70,71,72,73,74,75,76,77,78,79,80,81,82,83,84,85,86,87,88,89,90]⟩ : ByteArray)) = some r:=h
 clear h
 obtain rfl:=Option.some.inj H
 go_enter Tryd.func67,Tryd.ntmps67
 go_wp2
 go_ret
 exact ⟨by first|rfl|(simp;done)|(simp [*];done),by repeat (first|exact Drawn0.refl _|apply Drawn0.step)⟩
def bT.f (k : Nat) (a0 : ByteArray) : Option (Bool):=if (a0.size : Int) ≥ 1 then (if (a0.size : Int) ≤ 255 then ((cK.f).bind fun zM=>((eB.f).bind fun t193=>(if zM.size + t193.size ≤ 9223372036854775807 then ((bQ.f).bind fun t194=>(if (zM ++ t193).size + t194.size ≤ 9223372036854775807 then (if ((zM ++ t193) ++ t194).size + 6 ≤ 9223372036854775807 then ((bE.f k a0 (((zM ++ t193) ++ t194) ++ (⟨#[46,95,45,47,58,64]⟩ : ByteArray))).bind fun zT=>(if zT = true then (if 0 < (a0.size : Int) then ((cK.f).bind fun t196=>((bQ.f).bind fun zP=>(if t196.size + zP.size ≤ 9223372036854775807 then ((bH.f k (bt a0 0) (t196 ++ zP)).bind fun t198=>(some t198)) else (none)))) else (none)) else (some false))) else (none)) else (none))) else (none)))) else (some false)) else (some false)
theorem bT.mono : ∀ a0 k,LeO (bT.f k a0) (bT.f (k + 1) a0):=by
 intro a0 k
 unfold bT.f
 repeat' first
   | (with_reducible exact bE.mono _ _ _)
   | (with_reducible exact bH.mono _ _ _)
   | (with_reducible exact LeO.refl _)
   | (with_reducible exact LeO.none _)
   | (with_reducible refine LeO.ite ?_ ?_)
   | (with_reducible refine LeO.bind ?_ (fun _=>?_))
   | exact bE.mono _ _ _
   | exact bH.mono _ _ _
   | exact LeO.none _
   | refine LeO.ite ?_ ?_
   | refine LeO.bind ?_ (fun _=>?_)
set_option maxHeartbeats 8000000 in
set_option maxRecDepth 100000 in
theorem bT.calls (k : Nat) (a0 : ByteArray) (r : Bool) (w : World) (h : bT.f k a0 = some r) :
  Calls Tryd.prog 36 #[.string a0] w fun e w'=>e = .returned (.bool r) ∧ Drawn0 w w':=by
 have H : (if (a0.size : Int) ≥ 1 then (if (a0.size : Int) ≤ 255 then ((cK.f).bind fun zM=>((eB.f).bind fun t193=>(if zM.size + t193.size ≤ 9223372036854775807 then ((bQ.f).bind fun t194=>(if (zM ++ t193).size + t194.size ≤ 9223372036854775807 then (if ((zM ++ t193) ++ t194).size + 6 ≤ 9223372036854775807 then ((bE.f k a0 (((zM ++ t193) ++ t194) ++ (⟨#[46,95,45,47,58,64]⟩ : ByteArray))).bind fun zT=>(if zT = true then (if 0 < (a0.size : Int) then ((cK.f).bind fun t196=>((bQ.f).bind fun zP=>(if t196.size + zP.size ≤ 9223372036854775807 then ((bH.f k (bt a0 0) (t196 ++ zP)).bind fun t198=>(some t198)) else (none)))) else (none)) else (some false))) else (none)) else (none))) else (none)))) else (some false)) else (some false)) = some r:=h
 clear h
 by_cases c2 : (a0.size : Int) ≥ 1
 ·rw [if_pos c2] at H
  have c2b0 : decide (1 ≤ (a0.size : Int)) = true:=decide_eq_true c2
  have c2b1 : decide (1 ≤ a0.size) = true:=decide_eq_true (by omega)
  clear c2
  by_cases c3 : (a0.size : Int) ≤ 255
  ·rw [if_pos c3] at H
   have c3b0 : decide ((a0.size : Int) ≤ 255) = true:=decide_eq_true c3
   have c3b1 : decide (a0.size ≤ 255) = true:=decide_eq_true (by omega)
   clear c3
   replace H:=Option.bind_eq_some_iff.mp H
   obtain ⟨zM,Aq,H⟩:=H
   replace H : ((eB.f).bind fun t193=>(if zM.size + t193.size ≤ 9223372036854775807 then ((bQ.f).bind fun t194=>(if (zM ++ t193).size + t194.size ≤ 9223372036854775807 then (if ((zM ++ t193) ++ t194).size + 6 ≤ 9223372036854775807 then ((bE.f k a0 (((zM ++ t193) ++ t194) ++ (⟨#[46,95,45,47,58,64]⟩ : ByteArray))).bind fun zT=>(if zT = true then (if 0 < (a0.size : Int) then ((cK.f).bind fun t196=>((bQ.f).bind fun zP=>(if t196.size + zP.size ≤ 9223372036854775807 then ((bH.f k (bt a0 0) (t196 ++ zP)).bind fun t198=>(some t198)) else (none)))) else (none)) else (some false))) else (none)) else (none))) else (none))) = some r:=H
   have A4:=Aside0.mk Aq
   clear Aq
   replace H:=Option.bind_eq_some_iff.mp H
   obtain ⟨t193,Ar,H⟩:=H
   replace H : (if zM.size + t193.size ≤ 9223372036854775807 then ((bQ.f).bind fun t194=>(if (zM ++ t193).size + t194.size ≤ 9223372036854775807 then (if ((zM ++ t193) ++ t194).size + 6 ≤ 9223372036854775807 then ((bE.f k a0 (((zM ++ t193) ++ t194) ++ (⟨#[46,95,45,47,58,64]⟩ : ByteArray))).bind fun zT=>(if zT = true then (if 0 < (a0.size : Int) then ((cK.f).bind fun t196=>((bQ.f).bind fun zP=>(if t196.size + zP.size ≤ 9223372036854775807 then ((bH.f k (bt a0 0) (t196 ++ zP)).bind fun t198=>(some t198)) else (none)))) else (none)) else (some false))) else (none)) else (none))) else (none)) = some r:=H
   have A5:=Aside0.mk Ar
   clear Ar
   by_cases c6 : zM.size + t193.size ≤ 9223372036854775807
   ·rw [if_pos c6] at H
    have c6b0:=eq_true c6
    have c6b1 : decide (zM.size + t193.size ≤ 9223372036854775807) = true:=decide_eq_true c6
    try have c6b2 : (9223372036854775807 < zM.size + t193.size) = False:=eq_false (Nat.not_lt.2 c6)
    replace H:=Option.bind_eq_some_iff.mp H
    obtain ⟨t194,Bo,H⟩:=H
    replace H : (if (zM ++ t193).size + t194.size ≤ 9223372036854775807 then (if ((zM ++ t193) ++ t194).size + 6 ≤ 9223372036854775807 then ((bE.f k a0 (((zM ++ t193) ++ t194) ++ (⟨#[46,95,45,47,58,64]⟩ : ByteArray))).bind fun zT=>(if zT = true then (if 0 < (a0.size : Int) then ((cK.f).bind fun t196=>((bQ.f).bind fun zP=>(if t196.size + zP.size ≤ 9223372036854775807 then ((bH.f k (bt a0 0) (t196 ++ zP)).bind fun t198=>(some t198)) else (none)))) else (none)) else (some false))) else (none)) else (none)) = some r:=H
    have A7:=Aside0.mk Bo
    clear Bo
    by_cases c8 : (zM ++ t193).size + t194.size ≤ 9223372036854775807
    ·rw [if_pos c8] at H
     have c8b0:=eq_true c8
     have c8b1 : decide ((zM ++ t193).size + t194.size ≤ 9223372036854775807) = true:=decide_eq_true c8
     try have c8b2 : (9223372036854775807 < (zM ++ t193).size + t194.size) = False:=eq_false (Nat.not_lt.2 c8)
     have c8s:=c8
     try simp only [ByteArray.size_append] at c8s
     try have c8s0:=eq_false (Nat.not_lt.2 c8s)
     try have c8s1:=eq_true c8s
     by_cases c9 : ((zM ++ t193) ++ t194).size + 6 ≤ 9223372036854775807
     ·rw [if_pos c9] at H
      have c9b0:=eq_true c9
      have c9b1 : decide (((zM ++ t193) ++ t194).size + 6 ≤ 9223372036854775807) = true:=decide_eq_true c9
      try have c9b2 : (9223372036854775807 < ((zM ++ t193) ++ t194).size + 6) = False:=eq_false (Nat.not_lt.2 c9)
      have c9s:=c9
      try simp only [ByteArray.size_append] at c9s
      try have c9s0:=eq_false (Nat.not_lt.2 c9s)
      try have c9s1:=eq_true c9s
      replace H:=Option.bind_eq_some_iff.mp H
      obtain ⟨zT,AP,H⟩:=H
      replace H : (if zT = true then (if 0 < (a0.size : Int) then ((cK.f).bind fun t196=>((bQ.f).bind fun zP=>(if t196.size + zP.size ≤ 9223372036854775807 then ((bH.f k (bt a0 0) (t196 ++ zP)).bind fun t198=>(some t198)) else (none)))) else (none)) else (some false)) = some r:=H
      have Am:=Aside0.mk AP
      clear AP
      by_cases c11 : zT = true
      ·subst c11
       have H1 : (if 0 < (a0.size : Int) then ((cK.f).bind fun t196=>((bQ.f).bind fun zP=>(if t196.size + zP.size ≤ 9223372036854775807 then ((bH.f k (bt a0 0) (t196 ++ zP)).bind fun t198=>(some t198)) else (none)))) else (none)) = some r:=by rw [if_pos rfl] at H;exact H
       clear H
       have H:=H1
       clear H1
       by_cases c12 : 0 < (a0.size : Int)
       ·rw [if_pos c12] at H
        have c12b0 : decide (0 < (a0.size : Int)) = true:=decide_eq_true c12
        have c12b1 : decide (0 < a0.size) = true:=decide_eq_true (by omega)
        clear c12
        replace H:=Option.bind_eq_some_iff.mp H
        obtain ⟨t196,AQ,H⟩:=H
        replace H : ((bQ.f).bind fun zP=>(if t196.size + zP.size ≤ 9223372036854775807 then ((bH.f k (bt a0 0) (t196 ++ zP)).bind fun t198=>(some t198)) else (none))) = some r:=H
        have AX:=Aside0.mk AQ
        clear AQ
        have e_ : zM = t196:=Option.some.inj (A4.out.symm.trans AX.out)
        subst e_
        replace H:=Option.bind_eq_some_iff.mp H
        obtain ⟨zP,AU,H⟩:=H
        replace H : (if zM.size + zP.size ≤ 9223372036854775807 then ((bH.f k (bt a0 0) (zM ++ zP)).bind fun t198=>(some t198)) else (none)) = some r:=H
        have AY:=Aside0.mk AU
        clear AU
        have e_ : t194 = zP:=Option.some.inj (A7.out.symm.trans AY.out)
        subst e_
        by_cases c16 : zM.size + t194.size ≤ 9223372036854775807
        ·rw [if_pos c16] at H
         have c16b0:=eq_true c16
         have c16b1 : decide (zM.size + t194.size ≤ 9223372036854775807) = true:=decide_eq_true c16
         try have c16b2 : (9223372036854775807 < zM.size + t194.size) = False:=eq_false (Nat.not_lt.2 c16)
         replace H:=Option.bind_eq_some_iff.mp H
         obtain ⟨t198,AV,H⟩:=H
         replace H : (some t198) = some r:=H
         have Bh:=Aside0.mk AV
         clear AV
         obtain rfl:=Option.some.inj H
         go_enter Tryd.func36,Tryd.ntmps36
         have Bw : 0 ≤ (0 : Int):=(by omega)
         have Bp : 0 < a0.size:=(by have : (0 : Int) < (a0.size : Int):=of_decide_eq_true (by first|(with_reducible assumption)|assumption);omega)
         have Bz : ∀ h : 0 < a0.size,((a0[0]'h).toNat : Int) = bt a0 0:=dG a0 0
         clear Bw
         have BA : (0 < (a0.size : Int)) = True:=eq_true (of_decide_eq_true (by first|(with_reducible assumption)|assumption))
         replace Bp:=eq_true Bp
         go_wp2_with (first|(go_at_call 66;(with_reducible refine (cK.calls  zM _ A4.out).mono ?_);rintro e w' ⟨rfl,⟨nd,rfl⟩⟩;(try first|exact ⟨rfl,_,World.drewN_drewN _ _ _⟩|exact ⟨rfl,_,Eq.trans (World.drewN_drewN _ _ _) (congrArg (World.drewN _) (Nat.add_assoc _ _ _))⟩))|(go_at_call 67;(with_reducible refine (eB.calls  t193 _ A5.out).mono ?_);rintro e w' ⟨rfl,⟨nd,rfl⟩⟩;(try first|exact ⟨rfl,_,World.drewN_drewN _ _ _⟩|exact ⟨rfl,_,Eq.trans (World.drewN_drewN _ _ _) (congrArg (World.drewN _) (Nat.add_assoc _ _ _))⟩))|(go_at_call 68;(with_reducible refine (bQ.calls  t194 _ A7.out).mono ?_);rintro e w' ⟨rfl,⟨nd,rfl⟩⟩;(try first|exact ⟨rfl,_,World.drewN_drewN _ _ _⟩|exact ⟨rfl,_,Eq.trans (World.drewN_drewN _ _ _) (congrArg (World.drewN _) (Nat.add_assoc _ _ _))⟩))|(go_at_call 65;(with_reducible refine (bE.calls k a0 (((zM ++ t193) ++ t194) ++ (⟨#[46,95,45,47,58,64]⟩ : ByteArray)) true _ Am.out).mono ?_);rintro e w' ⟨rfl,⟨nd,rfl⟩⟩;(try first|exact ⟨rfl,_,World.drewN_drewN _ _ _⟩|exact ⟨rfl,_,Eq.trans (World.drewN_drewN _ _ _) (congrArg (World.drewN _) (Nat.add_assoc _ _ _))⟩))|(go_at_call 66;(with_reducible refine (cK.calls  zM _ AX.out).mono ?_);rintro e w' ⟨rfl,⟨nd,rfl⟩⟩;(try first|exact ⟨rfl,_,World.drewN_drewN _ _ _⟩|exact ⟨rfl,_,Eq.trans (World.drewN_drewN _ _ _) (congrArg (World.drewN _) (Nat.add_assoc _ _ _))⟩))|(go_at_call 68;(with_reducible refine (bQ.calls  t194 _ AY.out).mono ?_);rintro e w' ⟨rfl,⟨nd,rfl⟩⟩;(try first|exact ⟨rfl,_,World.drewN_drewN _ _ _⟩|exact ⟨rfl,_,Eq.trans (World.drewN_drewN _ _ _) (congrArg (World.drewN _) (Nat.add_assoc _ _ _))⟩))|(go_at_call 69;(with_reducible refine (bH.calls k (bt a0 0) (zM ++ t194) t198 _ Bh.out).mono ?_);rintro e w' ⟨rfl,⟨nd,rfl⟩⟩;(try first|exact ⟨rfl,_,World.drewN_drewN _ _ _⟩|exact ⟨rfl,_,Eq.trans (World.drewN_drewN _ _ _) (congrArg (World.drewN _) (Nat.add_assoc _ _ _))⟩)))
         repeat (go_quiet (first|(go_at_call 66;(with_reducible refine (cK.calls  zM _ A4.out).mono ?_);rintro e w' ⟨rfl,⟨nd,rfl⟩⟩;(try first|exact ⟨rfl,_,World.drewN_drewN _ _ _⟩|exact ⟨rfl,_,Eq.trans (World.drewN_drewN _ _ _) (congrArg (World.drewN _) (Nat.add_assoc _ _ _))⟩))|(go_at_call 67;(with_reducible refine (eB.calls  t193 _ A5.out).mono ?_);rintro e w' ⟨rfl,⟨nd,rfl⟩⟩;(try first|exact ⟨rfl,_,World.drewN_drewN _ _ _⟩|exact ⟨rfl,_,Eq.trans (World.drewN_drewN _ _ _) (congrArg (World.drewN _) (Nat.add_assoc _ _ _))⟩))|(go_at_call 68;(with_reducible refine (bQ.calls  t194 _ A7.out).mono ?_);rintro e w' ⟨rfl,⟨nd,rfl⟩⟩;(try first|exact ⟨rfl,_,World.drewN_drewN _ _ _⟩|exact ⟨rfl,_,Eq.trans (World.drewN_drewN _ _ _) (congrArg (World.drewN _) (Nat.add_assoc _ _ _))⟩))|(go_at_call 65;(with_reducible refine (bE.calls k a0 (((zM ++ t193) ++ t194) ++ (⟨#[46,95,45,47,58,64]⟩ : ByteArray)) true _ Am.out).mono ?_);rintro e w' ⟨rfl,⟨nd,rfl⟩⟩;(try first|exact ⟨rfl,_,World.drewN_drewN _ _ _⟩|exact ⟨rfl,_,Eq.trans (World.drewN_drewN _ _ _) (congrArg (World.drewN _) (Nat.add_assoc _ _ _))⟩))|(go_at_call 66;(with_reducible refine (cK.calls  zM _ AX.out).mono ?_);rintro e w' ⟨rfl,⟨nd,rfl⟩⟩;(try first|exact ⟨rfl,_,World.drewN_drewN _ _ _⟩|exact ⟨rfl,_,Eq.trans (World.drewN_drewN _ _ _) (congrArg (World.drewN _) (Nat.add_assoc _ _ _))⟩))|(go_at_call 68;(with_reducible refine (bQ.calls  t194 _ AY.out).mono ?_);rintro e w' ⟨rfl,⟨nd,rfl⟩⟩;(try first|exact ⟨rfl,_,World.drewN_drewN _ _ _⟩|exact ⟨rfl,_,Eq.trans (World.drewN_drewN _ _ _) (congrArg (World.drewN _) (Nat.add_assoc _ _ _))⟩))|(go_at_call 69;(with_reducible refine (bH.calls k (bt a0 0) (zM ++ t194) t198 _ Bh.out).mono ?_);rintro e w' ⟨rfl,⟨nd,rfl⟩⟩;(try first|exact ⟨rfl,_,World.drewN_drewN _ _ _⟩|exact ⟨rfl,_,Eq.trans (World.drewN_drewN _ _ _) (congrArg (World.drewN _) (Nat.add_assoc _ _ _))⟩)));try go_wp2_with (first|(go_at_call 66;(with_reducible refine (cK.calls  zM _ A4.out).mono ?_);rintro e w' ⟨rfl,⟨nd,rfl⟩⟩;(try first|exact ⟨rfl,_,World.drewN_drewN _ _ _⟩|exact ⟨rfl,_,Eq.trans (World.drewN_drewN _ _ _) (congrArg (World.drewN _) (Nat.add_assoc _ _ _))⟩))|(go_at_call 67;(with_reducible refine (eB.calls  t193 _ A5.out).mono ?_);rintro e w' ⟨rfl,⟨nd,rfl⟩⟩;(try first|exact ⟨rfl,_,World.drewN_drewN _ _ _⟩|exact ⟨rfl,_,Eq.trans (World.drewN_drewN _ _ _) (congrArg (World.drewN _) (Nat.add_assoc _ _ _))⟩))|(go_at_call 68;(with_reducible refine (bQ.calls  t194 _ A7.out).mono ?_);rintro e w' ⟨rfl,⟨nd,rfl⟩⟩;(try first|exact ⟨rfl,_,World.drewN_drewN _ _ _⟩|exact ⟨rfl,_,Eq.trans (World.drewN_drewN _ _ _) (congrArg (World.drewN _) (Nat.add_assoc _ _ _))⟩))|(go_at_call 65;(with_reducible refine (bE.calls k a0 (((zM ++ t193) ++ t194) ++ (⟨#[46,95,45,47,58,64]⟩ : ByteArray)) true _ Am.out).mono ?_);rintro e w' ⟨rfl,⟨nd,rfl⟩⟩;(try first|exact ⟨rfl,_,World.drewN_drewN _ _ _⟩|exact ⟨rfl,_,Eq.trans (World.drewN_drewN _ _ _) (congrArg (World.drewN _) (Nat.add_assoc _ _ _))⟩))|(go_at_call 66;(with_reducible refine (cK.calls  zM _ AX.out).mono ?_);rintro e w' ⟨rfl,⟨nd,rfl⟩⟩;(try first|exact ⟨rfl,_,World.drewN_drewN _ _ _⟩|exact ⟨rfl,_,Eq.trans (World.drewN_drewN _ _ _) (congrArg (World.drewN _) (Nat.add_assoc _ _ _))⟩))|(go_at_call 68;(with_reducible refine (bQ.calls  t194 _ AY.out).mono ?_);rintro e w' ⟨rfl,⟨nd,rfl⟩⟩;(try first|exact ⟨rfl,_,World.drewN_drewN _ _ _⟩|exact ⟨rfl,_,Eq.trans (World.drewN_drewN _ _ _) (congrArg (World.drewN _) (Nat.add_assoc _ _ _))⟩))|(go_at_call 69;(with_reducible refine (bH.calls k (bt a0 0) (zM ++ t194) t198 _ Bh.out).mono ?_);rintro e w' ⟨rfl,⟨nd,rfl⟩⟩;(try first|exact ⟨rfl,_,World.drewN_drewN _ _ _⟩|exact ⟨rfl,_,Eq.trans (World.drewN_drewN _ _ _) (congrArg (World.drewN _) (Nat.add_assoc _ _ _))⟩))))
         go_ret
         exact ⟨by first|rfl|(simp;done)|(simp [*];done),by repeat (first|exact Drawn0.refl _|apply Drawn0.step)⟩
        ·rw [if_neg c16] at H
         exact absurd H (by simp)
       ·rw [if_neg c12] at H
        exact absurd H (by simp)
      ·replace c11:=Bool.eq_false_iff.mpr c11
       subst c11
       have H1 : (some false) = some r:=by rw [if_neg (show ¬ (false = true) by decide)] at H;exact H
       clear H
       have H:=H1
       clear H1
       obtain rfl:=Option.some.inj H
       go_enter Tryd.func36,Tryd.ntmps36
       go_wp2_with (first|(go_at_call 66;(with_reducible refine (cK.calls  zM _ A4.out).mono ?_);rintro e w' ⟨rfl,⟨nd,rfl⟩⟩;(try first|exact ⟨rfl,_,World.drewN_drewN _ _ _⟩|exact ⟨rfl,_,Eq.trans (World.drewN_drewN _ _ _) (congrArg (World.drewN _) (Nat.add_assoc _ _ _))⟩))|(go_at_call 67;(with_reducible refine (eB.calls  t193 _ A5.out).mono ?_);rintro e w' ⟨rfl,⟨nd,rfl⟩⟩;(try first|exact ⟨rfl,_,World.drewN_drewN _ _ _⟩|exact ⟨rfl,_,Eq.trans (World.drewN_drewN _ _ _) (congrArg (World.drewN _) (Nat.add_assoc _ _ _))⟩))|(go_at_call 68;(with_reducible refine (bQ.calls  t194 _ A7.out).mono ?_);rintro e w' ⟨rfl,⟨nd,rfl⟩⟩;(try first|exact ⟨rfl,_,World.drewN_drewN _ _ _⟩|exact ⟨rfl,_,Eq.trans (World.drewN_drewN _ _ _) (congrArg (World.drewN _) (Nat.add_assoc _ _ _))⟩))|(go_at_call 65;(with_reducible refine (bE.calls k a0 (((zM ++ t193) ++ t194) ++ (⟨#[46,95,45,47,58,64]⟩ : ByteArray)) false _ Am.out).mono ?_);rintro e w' ⟨rfl,⟨nd,rfl⟩⟩;(try first|exact ⟨rfl,_,World.drewN_drewN _ _ _⟩|exact ⟨rfl,_,Eq.trans (World.drewN_drewN _ _ _) (congrArg (World.drewN _) (Nat.add_assoc _ _ _))⟩)))
       repeat (go_quiet (first|(go_at_call 66;(with_reducible refine (cK.calls  zM _ A4.out).mono ?_);rintro e w' ⟨rfl,⟨nd,rfl⟩⟩;(try first|exact ⟨rfl,_,World.drewN_drewN _ _ _⟩|exact ⟨rfl,_,Eq.trans (World.drewN_drewN _ _ _) (congrArg (World.drewN _) (Nat.add_assoc _ _ _))⟩))|(go_at_call 67;(with_reducible refine (eB.calls  t193 _ A5.out).mono ?_);rintro e w' ⟨rfl,⟨nd,rfl⟩⟩;(try first|exact ⟨rfl,_,World.drewN_drewN _ _ _⟩|exact ⟨rfl,_,Eq.trans (World.drewN_drewN _ _ _) (congrArg (World.drewN _) (Nat.add_assoc _ _ _))⟩))|(go_at_call 68;(with_reducible refine (bQ.calls  t194 _ A7.out).mono ?_);rintro e w' ⟨rfl,⟨nd,rfl⟩⟩;(try first|exact ⟨rfl,_,World.drewN_drewN _ _ _⟩|exact ⟨rfl,_,Eq.trans (World.drewN_drewN _ _ _) (congrArg (World.drewN _) (Nat.add_assoc _ _ _))⟩))|(go_at_call 65;(with_reducible refine (bE.calls k a0 (((zM ++ t193) ++ t194) ++ (⟨#[46,95,45,47,58,64]⟩ : ByteArray)) false _ Am.out).mono ?_);rintro e w' ⟨rfl,⟨nd,rfl⟩⟩;(try first|exact ⟨rfl,_,World.drewN_drewN _ _ _⟩|exact ⟨rfl,_,Eq.trans (World.drewN_drewN _ _ _) (congrArg (World.drewN _) (Nat.add_assoc _ _ _))⟩)));try go_wp2_with (first|(go_at_call 66;(with_reducible refine (cK.calls  zM _ A4.out).mono ?_);rintro e w' ⟨rfl,⟨nd,rfl⟩⟩;(try first|exact ⟨rfl,_,World.drewN_drewN _ _ _⟩|exact ⟨rfl,_,Eq.trans (World.drewN_drewN _ _ _) (congrArg (World.drewN _) (Nat.add_assoc _ _ _))⟩))|(go_at_call 67;(with_reducible refine (eB.calls  t193 _ A5.out).mono ?_);rintro e w' ⟨rfl,⟨nd,rfl⟩⟩;(try first|exact ⟨rfl,_,World.drewN_drewN _ _ _⟩|exact ⟨rfl,_,Eq.trans (World.drewN_drewN _ _ _) (congrArg (World.drewN _) (Nat.add_assoc _ _ _))⟩))|(go_at_call 68;(with_reducible refine (bQ.calls  t194 _ A7.out).mono ?_);rintro e w' ⟨rfl,⟨nd,rfl⟩⟩;(try first|exact ⟨rfl,_,World.drewN_drewN _ _ _⟩|exact ⟨rfl,_,Eq.trans (World.drewN_drewN _ _ _) (congrArg (World.drewN _) (Nat.add_assoc _ _ _))⟩))|(go_at_call 65;(with_reducible refine (bE.calls k a0 (((zM ++ t193) ++ t194) ++ (⟨#[46,95,45,47,58,64]⟩ : ByteArray)) false _ Am.out).mono ?_);rintro e w' ⟨rfl,⟨nd,rfl⟩⟩;(try first|exact ⟨rfl,_,World.drewN_drewN _ _ _⟩|exact ⟨rfl,_,Eq.trans (World.drewN_drewN _ _ _) (congrArg (World.drewN _) (Nat.add_assoc _ _ _))⟩))))
       go_ret
       exact ⟨by first|rfl|(simp;done)|(simp [*];done),by repeat (first|exact Drawn0.refl _|apply Drawn0.step)⟩
     ·rw [if_neg c9] at H
      exact absurd H (by simp)
    ·rw [if_neg c8] at H
     exact absurd H (by simp)
   ·rw [if_neg c6] at H
    exact absurd H (by simp)
  ·rw [if_neg c3] at H
   have c3b0 : decide ((a0.size : Int) ≤ 255) = false:=decide_eq_false c3
   have c3b1 : decide (a0.size ≤ 255) = false:=decide_eq_false (by omega)
   clear c3
   obtain rfl:=Option.some.inj H
   go_enter Tryd.func36,Tryd.ntmps36
   go_wp2
   repeat (go_quiet (fail);try go_wp2)
   go_ret
   exact ⟨by first|rfl|(simp;done)|(simp [*];done),by repeat (first|exact Drawn0.refl _|apply Drawn0.step)⟩
 ·rw [if_neg c2] at H
  have c2b0 : decide (1 ≤ (a0.size : Int)) = false:=decide_eq_false c2
  have c2b1 : decide (1 ≤ a0.size) = false:=decide_eq_false (by omega)
  clear c2
  obtain rfl:=Option.some.inj H
  go_enter Tryd.func36,Tryd.ntmps36
  go_wp2
  repeat (go_quiet (fail);try go_wp2)
  go_ret
  exact ⟨by first|rfl|(simp;done)|(simp [*];done),by repeat (first|exact Drawn0.refl _|apply Drawn0.step)⟩
end Go.Proofs.YtpmbdcljphpcnaaDoor.GC2
