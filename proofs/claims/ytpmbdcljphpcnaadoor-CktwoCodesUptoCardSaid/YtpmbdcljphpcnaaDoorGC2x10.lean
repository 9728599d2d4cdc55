/- Written by this session's own program (wip/gen.py) out of the translation: plain Lean functions of the Go functions, and proofs that the calls come to their answers. No conditions beside those in the statements. -/
import Derived.Test.YtpmbdcljphpcnaaDoorGC2x0
import Derived.Test.YtpmbdcljphpcnaaDoorGC2x9
namespace Go.Proofs.YtpmbdcljphpcnaaDoor.GC2
open Go.RowKit Go.Proofs.YtpmbdcljphpcnaaDoorW.PrintWords Go.Proofs.YtpmbdcljphpcnaaDoorW.PrintLast Go.Proofs.YtpmbdcljphpcnaaDoorW.PrintMore
attribute [local go_sem] eY eZ fJ fK eP eT fq fu
set_option linter.unusedVariables false
set_option linter.unusedSimpArgs false
def bC.f (k : Nat) (a0 : ByteArray) : Option (Bool):=if (a0.size : Int) ≥ 1 then (if (a0.size : Int) ≤ 63 then ((cu.f).bind fun xQ=>((bO.f).bind fun xO=>(if xQ.size + xO.size ≤ 9223372036854775807 then (if (xQ ++ xO).size + 1 ≤ 9223372036854775807 then ((bA.f k a0 ((xQ ++ xO) ++ (⟨#[45]⟩ : ByteArray))).bind fun t167=>(if t167 = true then (if 0 < (a0.size : Int) then (if (bt a0 0) = 45 then (some false) else (if 0 ≤ (wrap64 ((a0.size : Int) - 1)) then (if (wrap64 ((a0.size : Int) - 1)) < (a0.size : Int) then (some ((bt a0 (wrap64 ((a0.size : Int) - 1))) != 45)) else (none)) else (none))) else (none)) else (some false))) else (none)) else (none)))) else (some false)) else (some false)
theorem bC.mono : ∀ a0 k,LeO (bC.f k a0) (bC.f (k + 1) a0):=by
 intro a0 k
 unfold bC.f
 repeat' first
   | (with_reducible exact bA.mono _ _ _)
   | (with_reducible exact LeO.refl _)
   | (with_reducible exact LeO.none _)
   | (with_reducible refine LeO.ite ?_ ?_)
   | (with_reducible refine LeO.bind ?_ (fun _=>?_))
   | exact bA.mono _ _ _
   | exact LeO.none _
   | refine LeO.ite ?_ ?_
   | refine LeO.bind ?_ (fun _=>?_)
set_option maxHeartbeats 8000000 in
set_option maxRecDepth 100000 in
theorem bC.calls (k : Nat) (a0 : ByteArray) (r : Bool) (w : World) (h : bC.f k a0 = some r) :
  Calls Tryd.prog 54 #[.string a0] w fun e w'=>e = .returned (.bool r) ∧ Drawn0 w w':=by
 have H : (if (a0.size : Int) ≥ 1 then (if (a0.size : Int) ≤ 63 then ((cu.f).bind fun xQ=>((bO.f).bind fun xO=>(if xQ.size + xO.size ≤ 9223372036854775807 then (if (xQ ++ xO).size + 1 ≤ 9223372036854775807 then ((bA.f k a0 ((xQ ++ xO) ++ (⟨#[45]⟩ : ByteArray))).bind fun t167=>(if t167 = true then (if 0 < (a0.size : Int) then (if (bt a0 0) = 45 then (some false) else (if 0 ≤ (wrap64 ((a0.size : Int) - 1)) then (if (wrap64 ((a0.size : Int) - 1)) < (a0.size : Int) then (some ((bt a0 (wrap64 ((a0.size : Int) - 1))) != 45)) else (none)) else (none))) else (none)) else (some false))) else (none)) else (none)))) else (some false)) else (some false)) = some r:=h
 clear h
 by_cases c2 : (a0.size : Int) ≥ 1
 ·rw [if_pos c2] at H
  have c2b0 : decide (1 ≤ (a0.size : Int)) = true:=decide_eq_true c2
  have c2b1 : decide (1 ≤ a0.size) = true:=decide_eq_true (by omega)
  clear c2
  by_cases c3 : (a0.size : Int) ≤ 63
  ·rw [if_pos c3] at H
   have c3b0 : decide ((a0.size : Int) ≤ 63) = true:=decide_eq_true c3
   have c3b1 : decide (a0.size ≤ 63) = true:=decide_eq_true (by omega)
   clear c3
   replace H:=Option.bind_eq_some_iff.mp H
   obtain ⟨xQ,yF,H⟩:=H
   replace H : ((bO.f).bind fun xO=>(if xQ.size + xO.size ≤ 9223372036854775807 then (if (xQ ++ xO).size + 1 ≤ 9223372036854775807 then ((bA.f k a0 ((xQ ++ xO) ++ (⟨#[45]⟩ : ByteArray))).bind fun t167=>(if t167 = true then (if 0 < (a0.size : Int) then (if (bt a0 0) = 45 then (some false) else (if 0 ≤ (wrap64 ((a0.size : Int) - 1)) then (if (wrap64 ((a0.size : Int) - 1)) < (a0.size : Int) then (some ((bt a0 (wrap64 ((a0.size : Int) - 1))) != 45)) else (none)) else (none))) else (none)) else (some false))) else (none)) else (none))) = some r:=H
   have A4:=Aside0.mk yF
   clear yF
   replace H:=Option.bind_eq_some_iff.mp H
   obtain ⟨xO,yG,H⟩:=H
   replace H : (if xQ.size + xO.size ≤ 9223372036854775807 then (if (xQ ++ xO).size + 1 ≤ 9223372036854775807 then ((bA.f k a0 ((xQ ++ xO) ++ (⟨#[45]⟩ : ByteArray))).bind fun t167=>(if t167 = true then (if 0 < (a0.size : Int) then (if (bt a0 0) = 45 then (some false) else (if 0 ≤ (wrap64 ((a0.size : Int) - 1)) then (if (wrap64 ((a0.size : Int) - 1)) < (a0.size : Int) then (some ((bt a0 (wrap64 ((a0.size : Int) - 1))) != 45)) else (none)) else (none))) else (none)) else (some false))) else (none)) else (none)) = some r:=H
   have A5:=Aside0.mk yG
   clear yG
   by_cases c6 : xQ.size + xO.size ≤ 9223372036854775807
   ·rw [if_pos c6] at H
    have c6b0:=eq_true c6
    have c6b1 : decide (xQ.size + xO.size ≤ 9223372036854775807) = true:=decide_eq_true c6
    try have c6b2 : (9223372036854775807 < xQ.size + xO.size) = False:=eq_false (Nat.not_lt.2 c6)
    by_cases c7 : (xQ ++ xO).size + 1 ≤ 9223372036854775807
    ·rw [if_pos c7] at H
     have c7b0:=eq_true c7
     have c7b1 : decide ((xQ ++ xO).size + 1 ≤ 9223372036854775807) = true:=decide_eq_true c7
     try have c7b2 : (9223372036854775807 < (xQ ++ xO).size + 1) = False:=eq_false (Nat.not_lt.2 c7)
     have c7s:=c7
     try simp only [ByteArray.size_append] at c7s
     try have c7s0:=eq_false (Nat.not_lt.2 c7s)
     try have c7s1:=eq_true c7s
     replace H:=Option.bind_eq_some_iff.mp H
     obtain ⟨t167,za,H⟩:=H
     replace H : (if t167 = true then (if 0 < (a0.size : Int) then (if (bt a0 0) = 45 then (some false) else (if 0 ≤ (wrap64 ((a0.size : Int) - 1)) then (if (wrap64 ((a0.size : Int) - 1)) < (a0.size : Int) then (some ((bt a0 (wrap64 ((a0.size : Int) - 1))) != 45)) else (none)) else (none))) else (none)) else (some false)) = some r:=H
     have A8:=Aside0.mk za
     clear za
     by_cases c9 : t167 = true
     ·subst c9
      have H1 : (if 0 < (a0.size : Int) then (if (bt a0 0) = 45 then (some false) else (if 0 ≤ (wrap64 ((a0.size : Int) - 1)) then (if (wrap64 ((a0.size : Int) - 1)) < (a0.size : Int) then (some ((bt a0 (wrap64 ((a0.size : Int) - 1))) != 45)) else (none)) else (none))) else (none)) = some r:=by rw [if_pos rfl] at H;exact H
      clear H
      have H:=H1
      clear H1
      by_cases c10 : 0 < (a0.size : Int)
      ·rw [if_pos c10] at H
       have c10b0 : decide (0 < (a0.size : Int)) = true:=decide_eq_true c10
       have c10b1 : decide (0 < a0.size) = true:=decide_eq_true (by omega)
       clear c10
       by_cases c12 : (bt a0 0) = 45
       ·rw [if_pos c12] at H
        have c12b0 : ((bt a0 0) == 45) = true:=beq_iff_eq.mpr c12
        have c12b1 : ((bt a0 0) != 45) = false:=bne_eq_false_iff_eq.mpr c12
        clear c12
        obtain rfl:=Option.some.inj H
        go_enter Tryd.func54,Tryd.ntmps54
        go_wp2_with (first|(go_at_call 66;(with_reducible refine (cu.calls  xQ _ A4.out).mono ?_);rintro e w' ⟨rfl,⟨nd,rfl⟩⟩)|(go_at_call 68;(with_reducible refine (bO.calls  xO _ A5.out).mono ?_);rintro e w' ⟨rfl,⟨nd,rfl⟩⟩)|(go_at_call 65;(with_reducible refine (bA.calls k a0 ((xQ ++ xO) ++ (⟨#[45]⟩ : ByteArray)) true _ A8.out).mono ?_);rintro e w' ⟨rfl,⟨nd,rfl⟩⟩;have yj : 0 ≤ (0 : Int):=(by omega);have yg : 0 < a0.size:=(by have : (0 : Int) < (a0.size : Int):=of_decide_eq_true (by first|(with_reducible assumption)|assumption);omega);have yB : ∀ h : 0 < a0.size,((a0[0]'h).toNat : Int) = bt a0 0:=dx a0 0;clear yj;have yV : (0 < (a0.size : Int)) = True:=eq_true (of_decide_eq_true (by first|(with_reducible assumption)|assumption));replace yg:=eq_true yg))
        go_ret
        exact ⟨by first|rfl|(simp;done)|(simp [*];done),by repeat (first|exact Drawn0.refl _|apply Drawn0.step)⟩
       ·rw [if_neg c12] at H
        have c12b0 : ((bt a0 0) == 45) = false:=beq_eq_false_iff_ne.mpr c12
        have c12b1 : ((bt a0 0) != 45) = true:=bne_iff_ne.mpr c12
        obtain ⟨xV,xW⟩ : ∃ j_ : Int,(wrap64 ((a0.size : Int) - 1)) = j_:=⟨_,rfl⟩
        replace H : (if 0 ≤ (xV) then (if (xV) < (a0.size : Int) then (some ((bt a0 (xV)) != 45)) else (none)) else (none)) = some r:=by first|(rw [xW] at H;exact H)|(simp only [xW] at H ⊢;exact H)
        (try rw [xW] at A4)
        (try rw [xW] at A5)
        (try rw [xW] at A8)
        have hji13w : (IntKind.i64.wrap ((a0.size : Int) - 1)) = xV:=(bD _).trans xW
        by_cases c14 : 0 ≤ (xV)
        ·rw [if_pos c14] at H
         have c14b0 : decide (0 ≤ (xV)) = true:=decide_eq_true c14
         clear c14
         by_cases c15 : (xV) < (a0.size : Int)
         ·rw [if_pos c15] at H
          have c15b0 : decide ((xV) < (a0.size : Int)) = true:=decide_eq_true c15
          clear c15
          obtain rfl:=Option.some.inj H
          go_enter Tryd.func54,Tryd.ntmps54
          go_wp2_with (first|(go_at_call 66;(with_reducible refine (cu.calls  xQ _ A4.out).mono ?_);rintro e w' ⟨rfl,⟨nd,rfl⟩⟩)|(go_at_call 68;(with_reducible refine (bO.calls  xO _ A5.out).mono ?_);rintro e w' ⟨rfl,⟨nd,rfl⟩⟩)|(go_at_call 65;(with_reducible refine (bA.calls k a0 ((xQ ++ xO) ++ (⟨#[45]⟩ : ByteArray)) true _ A8.out).mono ?_);rintro e w' ⟨rfl,⟨nd,rfl⟩⟩;have yj : 0 ≤ (0 : Int):=(by omega);have yg : 0 < a0.size:=(by have : (0 : Int) < (a0.size : Int):=of_decide_eq_true (by first|(with_reducible assumption)|assumption);omega);have yB : ∀ h : 0 < a0.size,((a0[0]'h).toNat : Int) = bt a0 0:=dx a0 0;clear yj;have yV : (0 < (a0.size : Int)) = True:=eq_true (of_decide_eq_true (by first|(with_reducible assumption)|assumption));replace yg:=eq_true yg;have p16 : 0 ≤ ((xV) : Int):=of_decide_eq_true (by first|(with_reducible assumption)|assumption);have q16 : (xV) < (a0.size : Int):=of_decide_eq_true (by first|(with_reducible assumption)|assumption);have hx16:=dx a0 (xV);replace p16:=eq_true p16;replace q16:=eq_true q16))
          go_ret
          exact ⟨by first|rfl|(simp;done)|(simp only [← xW] <;> (first|rfl|simp))|(simp [*];done),by repeat (first|exact Drawn0.refl _|apply Drawn0.step)⟩
         ·rw [if_neg c15] at H
          exact absurd H (by simp)
        ·rw [if_neg c14] at H
         exact absurd H (by simp)
      ·rw [if_neg c10] at H
       exact absurd H (by simp)
     ·replace c9:=Bool.eq_false_iff.mpr c9
      subst c9
      have H1 : (some false) = some r:=by rw [if_neg (show ¬ (false = true) by decide)] at H;exact H
      clear H
      have H:=H1
      clear H1
      obtain rfl:=Option.some.inj H
      go_enter Tryd.func54,Tryd.ntmps54
      go_wp2_with (first|(go_at_call 66;(with_reducible refine (cu.calls  xQ _ A4.out).mono ?_);rintro e w' ⟨rfl,⟨nd,rfl⟩⟩)|(go_at_call 68;(with_reducible refine (bO.calls  xO _ A5.out).mono ?_);rintro e w' ⟨rfl,⟨nd,rfl⟩⟩)|(go_at_call 65;(with_reducible refine (bA.calls k a0 ((xQ ++ xO) ++ (⟨#[45]⟩ : ByteArray)) false _ A8.out).mono ?_);rintro e w' ⟨rfl,⟨nd,rfl⟩⟩))
      go_ret
      exact ⟨by first|rfl|(simp;done)|(simp [*];done),by repeat (first|exact Drawn0.refl _|apply Drawn0.step)⟩
    ·rw [if_neg c7] at H
     exact absurd H (by simp)
   ·rw [if_neg c6] at H
    exact absurd H (by simp)
  ·rw [if_neg c3] at H
   have c3b0 : decide ((a0.size : Int) ≤ 63) = false:=decide_eq_false c3
   have c3b1 : decide (a0.size ≤ 63) = false:=decide_eq_false (by omega)
   clear c3
   obtain rfl:=Option.some.inj H
   go_enter Tryd.func54,Tryd.ntmps54
   go_wp2
   go_ret
   exact ⟨by first|rfl|(simp;done)|(simp [*];done),by repeat (first|exact Drawn0.refl _|apply Drawn0.step)⟩
 ·rw [if_neg c2] at H
  have c2b0 : decide (1 ≤ (a0.size : Int)) = false:=decide_eq_false c2
  have c2b1 : decide (1 ≤ a0.size) = false:=decide_eq_false (by omega)
  clear c2
  obtain rfl:=Option.some.inj H
  go_enter Tryd.func54,Tryd.ntmps54
  go_wp2
  go_ret
  exact ⟨by first|rfl|(simp;done)|(simp [*];done),by repeat (first|exact Drawn0.refl _|apply Drawn0.step)⟩
def bU.l0 : Nat → ByteArray → List ByteArray → Int → Int → Option (List ByteArray)
 | 0,_,_,_,_=>none
 | k + 1,x0,x3,x4,x5=>if x5 ≤ (x0.size : Int) then (if x5 = (x0.size : Int) then (if 0 ≤ x4 then (if x4 ≤ x5 then (if x3.length < 8796093022208 then (bU.l0 k x0 (x3 ++ [x0.extract (x4 : Int).toNat (x5 : Int).toNat]) (wrap64 (x5 + 1)) (wrap64 (x5 + 1))) else (none)) else (none)) else (none)) else (if 0 ≤ x5 then (if x5 < (x0.size : Int) then (if (bt x0 x5) = 46 then (if 0 ≤ x4 then (if x4 ≤ x5 then (if x3.length < 8796093022208 then (bU.l0 k x0 (x3 ++ [x0.extract (x4 : Int).toNat (x5 : Int).toNat]) (wrap64 (x5 + 1)) (wrap64 (x5 + 1))) else (none)) else (none)) else (none)) else (bU.l0 k x0 x3 x4 (wrap64 (x5 + 1)))) else (none)) else (none))) else (some x3)
def bU.f (k : Nat) (a0 : ByteArray) : Option (List ByteArray):=bU.l0 k a0 ([] : List ByteArray) 0 0
theorem bU.dO : ∀ k,(∀ y0 y1 y2 y3,LeO (bU.l0 k y0 y1 y2 y3) (bU.l0 (k + 1) y0 y1 y2 y3))
 | 0=>fun _ _ _ _ r h=>by simp [bU.l0] at h
 | k + 1=>by
  have yh:=bU.dO k
  ·intro y0 y1 y2 y3
   unfold bU.l0
   repeat' first
   | (with_reducible exact yh _ _ _ _)
   | (with_reducible exact LeO.refl _)
   | (with_reducible exact LeO.none _)
   | (with_reducible refine LeO.ite ?_ ?_)
   | (with_reducible refine LeO.bind ?_ (fun _=>?_))
   | exact yh _ _ _ _
   | exact LeO.none _
   | refine LeO.ite ?_ ?_
   | refine LeO.bind ?_ (fun _=>?_)
theorem bU.mono : ∀ a0 k,LeO (bU.f k a0) (bU.f (k + 1) a0):=by
 intro a0 k
 have yh:=bU.dO k
 unfold bU.f
 repeat' first
   | (with_reducible exact yh _ _ _ _)
   | (with_reducible exact LeO.refl _)
   | (with_reducible exact LeO.none _)
   | (with_reducible refine LeO.ite ?_ ?_)
   | (with_reducible refine LeO.bind ?_ (fun _=>?_))
   | exact yh _ _ _ _
   | exact LeO.none _
   | refine LeO.ite ?_ ?_
   | refine LeO.bind ?_ (fun _=>?_)
set_option maxHeartbeats 8000000 in
set_option maxRecDepth 100000 in
theorem bU.calls (k : Nat) (a0 : ByteArray) (r : List ByteArray) (w : World) (h : bU.f k a0 = some r) :
  Calls Tryd.prog 64 #[.string a0] w fun e w'=>∃ ze : Value,e = .returned (ze) ∧ Kd.R Kd.string 9 w' w.heap.size (fun _=>True) ze r ∧ Below w.heap.size w w':=by
 have HB:=Aside0.mk (Below.refl w.heap.size w)
 have H : (bU.l0 k a0 ([] : List ByteArray) 0 0) = some r:=h
 clear h
 have H':=Aside0.mk H
 clear H
 go_enter Tryd.func64,Tryd.ntmps64
 go_wp2
 go_loopg [3,4,5] k (fun kq v3 v4 v5 w'=>∃ (xX : List ByteArray) (xM : Int) (xJ : Int),v4 = .int .i64 xM ∧ v5 = .int .i64 xJ ∧ Aside0 (bU.l0 kq a0 xX xM xJ = some r) ∧ Aside0 (kq ≤ k) ∧ Aside0 (Kd.R Kd.string 9 w' w.heap.size (fun _=>True) v3 xX) ∧ Aside0 (Below w.heap.size w w'))
 case atStart=>exact ⟨(([] : List ByteArray)),(0),(0),(by first|rfl|(simp;done)|(simp [*];done)),(by first|rfl|(simp;done)|(simp [*];done)),H',⟨Nat.le_refl _⟩,⟨by first|exact Kd.mh _ _ _ _ _|exact Kd.qX _ _ _ _ _|exact Kd.qZ _ _ _ _ _|exact Kd.qL _ _ _ _ _|exact Kd.qP _ _ _ _ _⟩,⟨by repeat (first|(with_reducible first|exact HB.out|apply ay|apply aj|apply av)|exact HB.out)⟩⟩
 case round =>
  clear H'
  obtain ⟨xX,xM,xJ,rfl,rfl,HA,yt,xU,HB⟩:=hrel
  cases gk with
  | zero=>exact absurd HA.out (by simp [bU.l0])
  | succ k1 =>
   have H:=HA.out
   clear HA
   simp only [bU.l0] at H
   by_cases c2 : xJ ≤ (a0.size : Int)
   ·rw [if_pos c2] at H
    have c2b0 : decide (xJ ≤ (a0.size : Int)) = true:=decide_eq_true c2
    clear c2
    by_cases c3 : xJ = (a0.size : Int)
    ·rw [if_pos c3] at H
     have c3b0 : (xJ == (a0.size : Int)) = true:=beq_iff_eq.mpr c3
     have c3b1 : (xJ != (a0.size : Int)) = false:=bne_eq_false_iff_eq.mpr c3
     clear c3
     by_cases c4 : 0 ≤ xM
     ·rw [if_pos c4] at H
      have c4b0:=eq_true c4
      have c4b1 : decide (0 ≤ xM) = true:=decide_eq_true c4
      clear c4
      by_cases c5 : xM ≤ xJ
      ·rw [if_pos c5] at H
       have c5b0:=eq_true c5
       have c5b1 : decide (xM ≤ xJ) = true:=decide_eq_true c5
       clear c5
       have c6b0:=eq_true (of_decide_eq_true (by first|(with_reducible assumption)|assumption) : xJ ≤ (a0.size : Int))
       by_cases c7 : xX.length < 8796093022208
       ·rw [if_pos c7] at H
        have yX:=Aside0.mk c7
        clear c7
        obtain ⟨y168,hy168⟩ : ∃ y_ : List ByteArray,y_ = (xX ++ [a0.extract (xM : Int).toNat (xJ : Int).toNat]):=⟨_,rfl⟩
        replace H : (bU.l0 k1 a0 y168 (wrap64 (xJ + 1)) (wrap64 (xJ + 1))) = some r:=by first|(rw [hy168];with_reducible exact H)|(have yC:=(Option.bind_some _ _).symm.trans H;rw [hy168];with_reducible exact yC)|(have yC:=(Option.bind_some _ _).symm.trans H;with_reducible exact yC)|with_reducible exact H|(rw [hy168];exact H)|exact H
        have yH:=Aside0.mk hy168
        clear hy168
        have H':=Aside0.mk H
        clear H
        go_wp2_with (first|((with_reducible refine iy (b:=.append) (xs:=#[.tmp 22,.tmp 27]) rfl ?_);at_builtin;refine Kd.jI Kd.string (w0:=w) w.heap.size rfl (.tmp 22) (.tmp 27) 77 9 (.string ⟨#[]⟩) 16 rfl Tryd.underlying77 tT rfl (by decide) (by omega) u3 xX (a0.extract (xM : Int).toNat (xJ : Int).toNat) [.string (a0.extract (xM : Int).toNat (xJ : Int).toNat)] (fun _=>True) (fun _=>False) rfl rfl ?aP (fun _ hk=>hk.elim) ?aF ?aO ?aB ?aS ?aL ?_;(case aP=>exact rfl);(case aB=>exact (by repeat (first|(with_reducible first|exact HB.out|apply ay|apply aj|apply av)|exact HB.out)));(case aF=>exact (fun _ _=>trivial));(case aO=>exact (by (with_reducible repeat (first|apply Kd.dI|apply Kd.dJ|apply Kd.dU));exact xU.out));(case aS=>exact (aV (by repeat (first|(with_reducible first|exact HB.out|apply ay|apply aj|apply av)|exact HB.out))));(case aL=>have:=yX.out;omega);intro zl w8 ho hb hg hat;rw [← yH.out] at ho;have yx:=Aside0.mk (hb);have yA:=Aside0.mk (ho);clear HB;clear xU;have HB:=yx;have yI:=yA;clear yx yA;clear ho hb hg hat))
        go_roundg k1
        case measure=>have:=yt.out;omega
        case rel=>exact ⟨(y168),(wrap64 (xJ + 1)),(wrap64 (xJ + 1)),(by first|rfl|(simp;done)|(simp [*];done)),(by first|rfl|(simp;done)|(simp [*];done)),H',⟨by have:=yt.out;omega⟩,⟨by (with_reducible repeat (first|apply Kd.dI|apply Kd.dJ|apply Kd.dU));exact yI.out⟩,⟨by repeat (first|(with_reducible first|exact HB.out|apply ay|apply aj|apply av)|exact HB.out)⟩⟩
       ·rw [if_neg c7] at H
        exact absurd H (by simp)
      ·rw [if_neg c5] at H
       exact absurd H (by simp)
     ·rw [if_neg c4] at H
      exact absurd H (by simp)
    ·rw [if_neg c3] at H
     have c3b0 : (xJ == (a0.size : Int)) = false:=beq_eq_false_iff_ne.mpr c3
     have c3b1 : (xJ != (a0.size : Int)) = true:=bne_iff_ne.mpr c3
     by_cases c9 : 0 ≤ xJ
     ·rw [if_pos c9] at H
      have c9b0 : decide (0 ≤ xJ) = true:=decide_eq_true c9
      clear c9
      by_cases c10 : xJ < (a0.size : Int)
      ·rw [if_pos c10] at H
       have c10b0 : decide (xJ < (a0.size : Int)) = true:=decide_eq_true c10
       clear c10
       by_cases c12 : (bt a0 xJ) = 46
       ·rw [if_pos c12] at H
        have c12b0 : ((bt a0 xJ) == 46) = true:=beq_iff_eq.mpr c12
        have c12b1 : ((bt a0 xJ) != 46) = false:=bne_eq_false_iff_eq.mpr c12
        clear c12
        by_cases c13 : 0 ≤ xM
        ·rw [if_pos c13] at H
         have c13b0:=eq_true c13
         have c13b1 : decide (0 ≤ xM) = true:=decide_eq_true c13
         clear c13
         by_cases c14 : xM ≤ xJ
         ·rw [if_pos c14] at H
          have c14b0:=eq_true c14
          have c14b1 : decide (xM ≤ xJ) = true:=decide_eq_true c14
          clear c14
          have c15b0:=eq_true (of_decide_eq_true (by first|(with_reducible assumption)|assumption) : xJ ≤ (a0.size : Int))
          by_cases c16 : xX.length < 8796093022208
          ·rw [if_pos c16] at H
           have yJ:=Aside0.mk c16
           clear c16
           obtain ⟨yK,xY⟩ : ∃ y_ : List ByteArray,y_ = (xX ++ [a0.extract (xM : Int).toNat (xJ : Int).toNat]):=⟨_,rfl⟩
           replace H : (bU.l0 k1 a0 yK (wrap64 (xJ + 1)) (wrap64 (xJ + 1))) = some r:=by first|(rw [xY];with_reducible exact H)|(have yC:=(Option.bind_some _ _).symm.trans H;rw [xY];with_reducible exact yC)|(have yC:=(Option.bind_some _ _).symm.trans H;with_reducible exact yC)|with_reducible exact H|(rw [xY];exact H)|exact H
           have yL:=Aside0.mk xY
           clear xY
           have H':=Aside0.mk H
           clear H
           have yj : 0 ≤ (xJ : Int):=of_decide_eq_true (by first|(with_reducible assumption)|assumption)
           have yg : xJ < (a0.size : Int):=of_decide_eq_true (by first|(with_reducible assumption)|assumption)
           have yB:=dx a0 xJ
           replace yj:=eq_true yj
           replace yg:=eq_true yg
           go_wp2_with (first|((with_reducible refine iy (b:=.append) (xs:=#[.tmp 22,.tmp 27]) rfl ?_);at_builtin;refine Kd.jI Kd.string (w0:=w) w.heap.size rfl (.tmp 22) (.tmp 27) 77 9 (.string ⟨#[]⟩) 16 rfl Tryd.underlying77 tT rfl (by decide) (by omega) u3 xX (a0.extract (xM : Int).toNat (xJ : Int).toNat) [.string (a0.extract (xM : Int).toNat (xJ : Int).toNat)] (fun _=>True) (fun _=>False) rfl rfl ?aP (fun _ hk=>hk.elim) ?aF ?aO ?aB ?aS ?aL ?_;(case aP=>exact rfl);(case aB=>exact (by repeat (first|(with_reducible first|exact HB.out|apply ay|apply aj|apply av)|exact HB.out)));(case aF=>exact (fun _ _=>trivial));(case aO=>exact (by (with_reducible repeat (first|apply Kd.dI|apply Kd.dJ|apply Kd.dU));exact xU.out));(case aS=>exact (aV (by repeat (first|(with_reducible first|exact HB.out|apply ay|apply aj|apply av)|exact HB.out))));(case aL=>have:=yJ.out;omega);intro zm zA ho hb hg hat;rw [← yL.out] at ho;have yx:=Aside0.mk (hb);have yA:=Aside0.mk (ho);clear HB;clear xU;have HB:=yx;have yM:=yA;clear yx yA;clear ho hb hg hat))
           go_roundg k1
           case measure=>have:=yt.out;omega
           case rel=>exact ⟨(yK),(wrap64 (xJ + 1)),(wrap64 (xJ + 1)),(by first|rfl|(simp;done)|(simp [*];done)),(by first|rfl|(simp;done)|(simp [*];done)),H',⟨by have:=yt.out;omega⟩,⟨by (with_reducible repeat (first|apply Kd.dI|apply Kd.dJ|apply Kd.dU));exact yM.out⟩,⟨by repeat (first|(with_reducible first|exact HB.out|apply ay|apply aj|apply av)|exact HB.out)⟩⟩
          ·rw [if_neg c16] at H
           exact absurd H (by simp)
         ·rw [if_neg c14] at H
          exact absurd H (by simp)
        ·rw [if_neg c13] at H
         exact absurd H (by simp)
       ·rw [if_neg c12] at H
        have c12b0 : ((bt a0 xJ) == 46) = false:=beq_eq_false_iff_ne.mpr c12
        have c12b1 : ((bt a0 xJ) != 46) = true:=bne_iff_ne.mpr c12
        have H':=Aside0.mk H
        clear H
        have yj : 0 ≤ (xJ : Int):=of_decide_eq_true (by first|(with_reducible assumption)|assumption)
        have yg : xJ < (a0.size : Int):=of_decide_eq_true (by first|(with_reducible assumption)|assumption)
        have yB:=dx a0 xJ
        replace yj:=eq_true yj
        replace yg:=eq_true yg
        go_wp2
        go_roundg k1
        case measure=>have:=yt.out;omega
        case rel=>exact ⟨(xX),(xM),(wrap64 (xJ + 1)),(by first|rfl|(simp;done)|(simp [*];done)),(by first|rfl|(simp;done)|(simp [*];done)),H',⟨by have:=yt.out;omega⟩,⟨by (with_reducible repeat (first|apply Kd.dI|apply Kd.dJ|apply Kd.dU));exact xU.out⟩,⟨by repeat (first|(with_reducible first|exact HB.out|apply ay|apply aj|apply av)|exact HB.out)⟩⟩
      ·rw [if_neg c10] at H
       exact absurd H (by simp)
     ·rw [if_neg c9] at H
      exact absurd H (by simp)
   ·rw [if_neg c2] at H
    have c2b0 : decide (xJ ≤ (a0.size : Int)) = false:=decide_eq_false c2
    clear c2
    obtain rfl:=Option.some.inj H
    go_wp2
    go_ret
    exact ⟨_,by first|rfl|(simp [aZ,bf] <;> rfl)|(simp [*,aZ,bf] <;> rfl),by (with_reducible repeat (first|apply Kd.dI|apply Kd.dJ|apply Kd.dU));exact xU.out,by repeat (first|(with_reducible first|exact HB.out|apply ay|apply aj|apply av)|exact HB.out)⟩
def aY.l0 : Nat → ByteArray → List ByteArray → Int → Option (Bool)
 | 0,_,_,_=>none
 | k + 1,x0,x3,x4=>if x4 < (x3.length : Int) then (if 0 ≤ x4 then ((bC.f k (kX ByteArray.empty x3 x4)).bind fun yu=>(if yu = true then (aY.l0 k x0 x3 (wrap64 (x4 + 1))) else (some false))) else (none)) else (some (decide ((x0.size : Int) ≤ 253)))
def aY.f (k : Nat) (a0 : ByteArray) : Option (Bool):=(bU.f k a0).bind fun xS=>(aY.l0 k a0 xS 0)
theorem aY.dO : ∀ k,(∀ y0 y1 y2,LeO (aY.l0 k y0 y1 y2) (aY.l0 (k + 1) y0 y1 y2))
 | 0=>fun _ _ _ r h=>by simp [aY.l0] at h
 | k + 1=>by
  have yh:=aY.dO k
  ·intro y0 y1 y2
   unfold aY.l0
   repeat' first
   | (with_reducible exact yh _ _ _)
   | (with_reducible exact bC.mono _ _)
   | (with_reducible exact bU.mono _ _)
   | (with_reducible exact LeO.refl _)
   | (with_reducible exact LeO.none _)
   | (with_reducible refine LeO.ite ?_ ?_)
   | (with_reducible refine LeO.bind ?_ (fun _=>?_))
   | exact yh _ _ _
   | exact bC.mono _ _
   | exact bU.mono _ _
   | exact LeO.none _
   | refine LeO.ite ?_ ?_
   | refine LeO.bind ?_ (fun _=>?_)
theorem aY.mono : ∀ a0 k,LeO (aY.f k a0) (aY.f (k + 1) a0):=by
 intro a0 k
 have yh:=aY.dO k
 unfold aY.f
 repeat' first
   | (with_reducible exact yh _ _ _)
   | (with_reducible exact bC.mono _ _)
   | (with_reducible exact bU.mono _ _)
   | (with_reducible exact LeO.refl _)
   | (with_reducible exact LeO.none _)
   | (with_reducible refine LeO.ite ?_ ?_)
   | (with_reducible refine LeO.bind ?_ (fun _=>?_))
   | exact yh _ _ _
   | exact bC.mono _ _
   | exact bU.mono _ _
   | exact LeO.none _
   | refine LeO.ite ?_ ?_
   | refine LeO.bind ?_ (fun _=>?_)
set_option maxHeartbeats 8000000 in
set_option maxRecDepth 100000 in
theorem aY.calls (k : Nat) (a0 : ByteArray) (r : Bool) (w : World) (h : aY.f k a0 = some r) :
  Calls Tryd.prog 35 #[.string a0] w fun e w'=>e = .returned (.bool r) ∧ Below w.heap.size w w':=by
 have HB:=Aside0.mk (Below.refl w.heap.size w)
 have H : ((bU.f k a0).bind fun xS=>(aY.l0 k a0 xS 0)) = some r:=h
 clear h
 replace H:=Option.bind_eq_some_iff.mp H
 obtain ⟨xS,zf,H⟩:=H
 replace H : (aY.l0 k a0 xS 0) = some r:=H
 have A2:=Aside0.mk zf
 clear zf
 have H':=Aside0.mk H
 clear H
 go_enter Tryd.func35,Tryd.ntmps35
 go_wp2_with (first|((with_reducible refine bK (f:=64) rfl ?_);refine dH (some 6) rfl rfl Tryd.func64 (by kernel_rfl) rfl #[.string a0] rfl (by (try simp only [List.map_toArray,List.map_cons,List.map_nil]);first|done|rfl|(simp only [List.length_drop,List.length_take];rfl)|(simp (disch:=first|omega|(simp at *;omega)) only [dh,bY,dY];rfl)) ?_;(with_reducible refine (bU.calls k a0 xS _ A2.out).mono ?_);rintro e w3 ⟨v175,rfl,ho0,hb⟩;refine ⟨_,rfl,?_⟩;have yx:=Aside0.mk (Kd.gP ho0 (aV (by repeat (first|(with_reducible first|exact HB.out|apply ay|apply aj|apply av)|exact HB.out))));have yA:=Aside0.mk (aQ (by repeat (first|(with_reducible first|exact HB.out|apply ay|apply aj|apply av)|exact HB.out)) hb);clear HB;have yN:=yx;have HB:=yA;clear yx yA;(try clear hb);(try clear hb2);(try clear hk);(try clear hi);(try clear ho0)))
 go_loopg [4] k (fun kq v4 w'=>∃ (xM : Int),v4 = .int .i64 xM ∧ Aside0 (aY.l0 kq a0 xS xM = some r) ∧ Aside0 (kq ≤ k) ∧ Aside0 (Kd.R Kd.string 9 w' w.heap.size (fun _=>True) v175 xS) ∧ Aside0 (Below w.heap.size w w'))
 case atStart=>exact ⟨(0),(by first|rfl|(simp;done)|(simp [*];done)),H',⟨Nat.le_refl _⟩,⟨by (with_reducible repeat (first|apply Kd.dI|apply Kd.dJ|apply Kd.dU));exact yN.out⟩,⟨by repeat (first|(with_reducible first|exact HB.out|apply ay|apply aj|apply av)|exact HB.out)⟩⟩
 case round =>
  clear H'
  try clear p2
  try clear c3
  obtain ⟨xM,rfl,HA,yt,xU,HB⟩:=hrel
  cases gk with
  | zero=>exact absurd HA.out (by simp [aY.l0])
  | succ k1 =>
   have H:=HA.out
   clear HA
   simp only [aY.l0] at H
   by_cases c4 : xM < (xS.length : Int)
   ·rw [if_pos c4] at H
    have c4b0 : decide (xM < (xS.length : Int)) = true:=decide_eq_true c4
    clear c4
    by_cases c5 : 0 ≤ xM
    ·rw [if_pos c5] at H
     have c5b0 : decide (0 ≤ xM) = true:=decide_eq_true c5
     clear c5
     replace H:=Option.bind_eq_some_iff.mp H
     obtain ⟨yu,zh,H⟩:=H
     replace H : (if yu = true then (aY.l0 k1 a0 xS (wrap64 (xM + 1))) else (some false)) = some r:=H
     have A6:=Aside0.mk zh
     clear zh
     by_cases c7 : yu = true
     ·subst c7
      have H1 : (aY.l0 k1 a0 xS (wrap64 (xM + 1))) = some r:=by rw [if_pos rfl] at H;exact H
      clear H
      have H:=H1
      clear H1
      have H':=Aside0.mk H
      clear H
      obtain ⟨zB,zC,zn⟩:=Kd.jg xU.out
      subst zn
      have xZ : 0 ≤ (xM : Int):=of_decide_eq_true (by first|(with_reducible assumption)|assumption)
      have yc : xM < (xS.length : Int):=of_decide_eq_true (by first|(with_reducible assumption)|assumption)
      obtain ⟨yO,yD,yw⟩:=Kd.mq (Kd.iW xU.out).2.2 xM xZ yc
      cases yD
      replace xZ:=eq_true xZ
      replace yc:=eq_true yc
      go_wp2_with (first|((with_reducible refine bK (f:=54) rfl ?_);refine dH (some 17) rfl rfl Tryd.func54 (by kernel_rfl) rfl #[.string (kX ByteArray.empty xS xM)] rfl (by (try simp only [List.map_toArray,List.map_cons,List.map_nil]);first|done|rfl|(simp only [List.length_drop,List.length_take];rfl)|(simp (disch:=first|omega|(simp at *;omega)) only [dh,bY,dY];rfl)) ?_;(with_reducible refine (bC.calls k1 (kX ByteArray.empty xS xM) true _ A6.out).mono ?_);rintro e w' ⟨rfl,⟨nd,rfl⟩⟩;refine ⟨_,rfl,?_⟩))
      go_roundg k1
      case measure=>have:=yt.out;omega
      case rel=>exact ⟨(wrap64 (xM + 1)),(by first|rfl|(simp;done)|(simp [*];done)),H',⟨by have:=yt.out;omega⟩,⟨by (with_reducible repeat (first|apply Kd.dI|apply Kd.dJ|apply Kd.dU));exact xU.out⟩,⟨by repeat (first|(with_reducible first|exact HB.out|apply ay|apply aj|apply av)|exact HB.out)⟩⟩
     ·replace c7:=Bool.eq_false_iff.mpr c7
      subst c7
      have H1 : (some false) = some r:=by rw [if_neg (show ¬ (false = true) by decide)] at H;exact H
      clear H
      have H:=H1
      clear H1
      obtain rfl:=Option.some.inj H
      obtain ⟨zD,zF,zo⟩:=Kd.jg xU.out
      subst zo
      have xZ : 0 ≤ (xM : Int):=of_decide_eq_true (by first|(with_reducible assumption)|assumption)
      have yc : xM < (xS.length : Int):=of_decide_eq_true (by first|(with_reducible assumption)|assumption)
      obtain ⟨yO,yD,yw⟩:=Kd.mq (Kd.iW xU.out).2.2 xM xZ yc
      cases yD
      replace xZ:=eq_true xZ
      replace yc:=eq_true yc
      go_wp2_with (first|((with_reducible refine bK (f:=54) rfl ?_);refine dH (some 17) rfl rfl Tryd.func54 (by kernel_rfl) rfl #[.string (kX ByteArray.empty xS xM)] rfl (by (try simp only [List.map_toArray,List.map_cons,List.map_nil]);first|done|rfl|(simp only [List.length_drop,List.length_take];rfl)|(simp (disch:=first|omega|(simp at *;omega)) only [dh,bY,dY];rfl)) ?_;(with_reducible refine (bC.calls k1 (kX ByteArray.empty xS xM) false _ A6.out).mono ?_);rintro e w' ⟨rfl,⟨nd,rfl⟩⟩;refine ⟨_,rfl,?_⟩))
      go_ret
      exact ⟨by first|rfl|(simp [aZ,bf] <;> rfl)|(simp [*,aZ,bf] <;> rfl),by repeat (first|(with_reducible first|exact HB.out|apply ay|apply aj|apply av)|exact HB.out)⟩
    ·rw [if_neg c5] at H
     exact absurd H (by simp)
   ·rw [if_neg c4] at H
    have c4b0 : decide (xM < (xS.length : Int)) = false:=decide_eq_false c4
    clear c4
    obtain rfl:=Option.some.inj H
    obtain ⟨zq,zu,yY⟩:=Kd.jg xU.out
    subst yY
    go_wp2
    go_ret
    exact ⟨by first|rfl|(simp [aZ,bf] <;> rfl)|(simp [*,aZ,bf] <;> rfl),by repeat (first|(with_reducible first|exact HB.out|apply ay|apply aj|apply av)|exact HB.out)⟩
def dV.f  : Option (ByteArray):=some (⟨#[65,66,67,68,69,70,71,72,73,74,75,76,77,78,79,80,81,82,83,84,85,86,87,88,89,90]⟩ : ByteArray)
set_option maxHeartbeats 8000000 in
set_option maxRecDepth 100000 in
theorem dV.calls  (r : ByteArray) (w : World) (h : dV.f  = some r) :
  Calls Tryd.prog 67 #[] w fun e w'=>e = .returned (.string r) ∧ Drawn0 w w':=by
 have H : (some (⟨#[65,66,67,68,69,70,71,72,73,74,75,76,77,78,79,80,81,82,83,84,85,86,87,88,89,90]⟩ : ByteArray)) = some r:=h
 clear h
 obtain rfl:=Option.some.inj H
 go_enter Tryd.func67,Tryd.ntmps67
 go_wp2
 go_ret
 exact ⟨by first|rfl|(simp;done)|(simp [*];done),by repeat (first|exact Drawn0.refl _|apply Drawn0.step)⟩
def bR.f (k : Nat) (a0 : ByteArray) : Option (Bool):=if (a0.size : Int) ≥ 1 then (if (a0.size : Int) ≤ 255 then ((cu.f).bind fun xI=>((dV.f).bind fun xL=>(if xI.size + xL.size ≤ 9223372036854775807 then ((bO.f).bind fun xK=>(if (xI ++ xL).size + xK.size ≤ 9223372036854775807 then (if ((xI ++ xL) ++ xK).size + 6 ≤ 9223372036854775807 then ((bA.f k a0 (((xI ++ xL) ++ xK) ++ (⟨#[46,95,45,47,58,64]⟩ : ByteArray))).bind fun t182=>(if t182 = true then (if 0 < (a0.size : Int) then ((cu.f).bind fun t183=>((bO.f).bind fun xP=>(if t183.size + xP.size ≤ 9223372036854775807 then ((bH.f k (bt a0 0) (t183 ++ xP)).bind fun xR=>(some xR)) else (none)))) else (none)) else (some false))) else (none)) else (none))) else (none)))) else (some false)) else (some false)
theorem bR.mono : ∀ a0 k,LeO (bR.f k a0) (bR.f (k + 1) a0):=by
 intro a0 k
 unfold bR.f
 repeat' first
   | (with_reducible exact bA.mono _ _ _)
   | (with_reducible exact bH.mono _ _ _)
   | (with_reducible exact LeO.refl _)
   | (with_reducible exact LeO.none _)
   | (with_reducible refine LeO.ite ?_ ?_)
   | (with_reducible refine LeO.bind ?_ (fun _=>?_))
   | exact bA.mono _ _ _
   | exact bH.mono _ _ _
   | exact LeO.none _
   | refine LeO.ite ?_ ?_
   | refine LeO.bind ?_ (fun _=>?_)
set_option maxHeartbeats 8000000 in
set_option maxRecDepth 100000 in
theorem bR.calls (k : Nat) (a0 : ByteArray) (r : Bool) (w : World) (h : bR.f k a0 = some r) :
  Calls Tryd.prog 36 #[.string a0] w fun e w'=>e = .returned (.bool r) ∧ Drawn0 w w':=by
 have H : (if (a0.size : Int) ≥ 1 then (if (a0.size : Int) ≤ 255 then ((cu.f).bind fun xI=>((dV.f).bind fun xL=>(if xI.size + xL.size ≤ 9223372036854775807 then ((bO.f).bind fun xK=>(if (xI ++ xL).size + xK.size ≤ 9223372036854775807 then (if ((xI ++ xL) ++ xK).size + 6 ≤ 9223372036854775807 then ((bA.f k a0 (((xI ++ xL) ++ xK) ++ (⟨#[46,95,45,47,58,64]⟩ : ByteArray))).bind fun t182=>(if t182 = true then (if 0 < (a0.size : Int) then ((cu.f).bind fun t183=>((bO.f).bind fun xP=>(if t183.size + xP.size ≤ 9223372036854775807 then ((bH.f k (bt a0 0) (t183 ++ xP)).bind fun xR=>(some xR)) else (none)))) else (none)) else (some false))) else (none)) else (none))) else (none)))) else (some false)) else (some false)) = some r:=h
 clear h
 by_cases c2 : (a0.size : Int) ≥ 1
 ·rw [if_pos c2] at H
  have c2b0 : decide (1 ≤ (a0.size : Int)) = true:=decide_eq_true c2
  have c2b1 : decide (1 ≤ a0.size) = true:=decide_eq_true (by omega)
  clear c2
  by_cases c3 : (a0.size : Int) ≤ 255
  ·rw [if_pos c3] at H
   have c3b0 : decide ((a0.size : Int) ≤ 255) = true:=decide_eq_true c3
   have c3b1 : decide (a0.size ≤ 255) = true:=decide_eq_true (by omega)
   clear c3
   replace H:=Option.bind_eq_some_iff.mp H
   obtain ⟨xI,yF,H⟩:=H
   replace H : ((dV.f).bind fun xL=>(if xI.size + xL.size ≤ 9223372036854775807 then ((bO.f).bind fun xK=>(if (xI ++ xL).size + xK.size ≤ 9223372036854775807 then (if ((xI ++ xL) ++ xK).size + 6 ≤ 9223372036854775807 then ((bA.f k a0 (((xI ++ xL) ++ xK) ++ (⟨#[46,95,45,47,58,64]⟩ : ByteArray))).bind fun t182=>(if t182 = true then (if 0 < (a0.size : Int) then ((cu.f).bind fun t183=>((bO.f).bind fun xP=>(if t183.size + xP.size ≤ 9223372036854775807 then ((bH.f k (bt a0 0) (t183 ++ xP)).bind fun xR=>(some xR)) else (none)))) else (none)) else (some false))) else (none)) else (none))) else (none))) = some r:=H
   have A4:=Aside0.mk yF
   clear yF
   replace H:=Option.bind_eq_some_iff.mp H
   obtain ⟨xL,yG,H⟩:=H
   replace H : (if xI.size + xL.size ≤ 9223372036854775807 then ((bO.f).bind fun xK=>(if (xI ++ xL).size + xK.size ≤ 9223372036854775807 then (if ((xI ++ xL) ++ xK).size + 6 ≤ 9223372036854775807 then ((bA.f k a0 (((xI ++ xL) ++ xK) ++ (⟨#[46,95,45,47,58,64]⟩ : ByteArray))).bind fun t182=>(if t182 = true then (if 0 < (a0.size : Int) then ((cu.f).bind fun t183=>((bO.f).bind fun xP=>(if t183.size + xP.size ≤ 9223372036854775807 then ((bH.f k (bt a0 0) (t183 ++ xP)).bind fun xR=>(some xR)) else (none)))) else (none)) else (some false))) else (none)) else (none))) else (none)) = some r:=H
   have A5:=Aside0.mk yG
   clear yG
   by_cases c6 : xI.size + xL.size ≤ 9223372036854775807
   ·rw [if_pos c6] at H
    have c6b0:=eq_true c6
    have c6b1 : decide (xI.size + xL.size ≤ 9223372036854775807) = true:=decide_eq_true c6
    try have c6b2 : (9223372036854775807 < xI.size + xL.size) = False:=eq_false (Nat.not_lt.2 c6)
    replace H:=Option.bind_eq_some_iff.mp H
    obtain ⟨xK,zi,H⟩:=H
    replace H : (if (xI ++ xL).size + xK.size ≤ 9223372036854775807 then (if ((xI ++ xL) ++ xK).size + 6 ≤ 9223372036854775807 then ((bA.f k a0 (((xI ++ xL) ++ xK) ++ (⟨#[46,95,45,47,58,64]⟩ : ByteArray))).bind fun t182=>(if t182 = true then (if 0 < (a0.size : Int) then ((cu.f).bind fun t183=>((bO.f).bind fun xP=>(if t183.size + xP.size ≤ 9223372036854775807 then ((bH.f k (bt a0 0) (t183 ++ xP)).bind fun xR=>(some xR)) else (none)))) else (none)) else (some false))) else (none)) else (none)) = some r:=H
    have A7:=Aside0.mk zi
    clear zi
    by_cases c8 : (xI ++ xL).size + xK.size ≤ 9223372036854775807
    ·rw [if_pos c8] at H
     have c8b0:=eq_true c8
     have c8b1 : decide ((xI ++ xL).size + xK.size ≤ 9223372036854775807) = true:=decide_eq_true c8
     try have c8b2 : (9223372036854775807 < (xI ++ xL).size + xK.size) = False:=eq_false (Nat.not_lt.2 c8)
     have c8s:=c8
     try simp only [ByteArray.size_append] at c8s
     try have c8s0:=eq_false (Nat.not_lt.2 c8s)
     try have c8s1:=eq_true c8s
     by_cases c9 : ((xI ++ xL) ++ xK).size + 6 ≤ 9223372036854775807
     ·rw [if_pos c9] at H
      have c9b0:=eq_true c9
      have c9b1 : decide (((xI ++ xL) ++ xK).size + 6 ≤ 9223372036854775807) = true:=decide_eq_true c9
      try have c9b2 : (9223372036854775807 < ((xI ++ xL) ++ xK).size + 6) = False:=eq_false (Nat.not_lt.2 c9)
      have c9s:=c9
      try simp only [ByteArray.size_append] at c9s
      try have c9s0:=eq_false (Nat.not_lt.2 c9s)
      try have c9s1:=eq_true c9s
      replace H:=Option.bind_eq_some_iff.mp H
      obtain ⟨t182,yP,H⟩:=H
      replace H : (if t182 = true then (if 0 < (a0.size : Int) then ((cu.f).bind fun t183=>((bO.f).bind fun xP=>(if t183.size + xP.size ≤ 9223372036854775807 then ((bH.f k (bt a0 0) (t183 ++ xP)).bind fun xR=>(some xR)) else (none)))) else (none)) else (some false)) = some r:=H
      have yE:=Aside0.mk yP
      clear yP
      by_cases c11 : t182 = true
      ·subst c11
       have H1 : (if 0 < (a0.size : Int) then ((cu.f).bind fun t183=>((bO.f).bind fun xP=>(if t183.size + xP.size ≤ 9223372036854775807 then ((bH.f k (bt a0 0) (t183 ++ xP)).bind fun xR=>(some xR)) else (none)))) else (none)) = some r:=by rw [if_pos rfl] at H;exact H
       clear H
       have H:=H1
       clear H1
       by_cases c12 : 0 < (a0.size : Int)
       ·rw [if_pos c12] at H
        have c12b0 : decide (0 < (a0.size : Int)) = true:=decide_eq_true c12
        have c12b1 : decide (0 < a0.size) = true:=decide_eq_true (by omega)
        clear c12
        replace H:=Option.bind_eq_some_iff.mp H
        obtain ⟨t183,yQ,H⟩:=H
        replace H : ((bO.f).bind fun xP=>(if t183.size + xP.size ≤ 9223372036854775807 then ((bH.f k (bt a0 0) (t183 ++ xP)).bind fun xR=>(some xR)) else (none))) = some r:=H
        have yT:=Aside0.mk yQ
        clear yQ
        have e_ : xI = t183:=Option.some.inj (A4.out.symm.trans yT.out)
        subst e_
        replace H:=Option.bind_eq_some_iff.mp H
        obtain ⟨xP,yR,H⟩:=H
        replace H : (if xI.size + xP.size ≤ 9223372036854775807 then ((bH.f k (bt a0 0) (xI ++ xP)).bind fun xR=>(some xR)) else (none)) = some r:=H
        have yU:=Aside0.mk yR
        clear yR
        have e_ : xK = xP:=Option.some.inj (A7.out.symm.trans yU.out)
        subst e_
        by_cases c16 : xI.size + xK.size ≤ 9223372036854775807
        ·rw [if_pos c16] at H
         have c16b0:=eq_true c16
         have c16b1 : decide (xI.size + xK.size ≤ 9223372036854775807) = true:=decide_eq_true c16
         try have c16b2 : (9223372036854775807 < xI.size + xK.size) = False:=eq_false (Nat.not_lt.2 c16)
         replace H:=Option.bind_eq_some_iff.mp H
         obtain ⟨xR,yS,H⟩:=H
         replace H : (some xR) = some r:=H
         have yZ:=Aside0.mk yS
         clear yS
         obtain rfl:=Option.some.inj H
         go_enter Tryd.func36,Tryd.ntmps36
         have zw : 0 ≤ (0 : Int):=(by omega)
         have zk : 0 < a0.size:=(by have : (0 : Int) < (a0.size : Int):=of_decide_eq_true (by first|(with_reducible assumption)|assumption);omega)
         have zx : ∀ h : 0 < a0.size,((a0[0]'h).toNat : Int) = bt a0 0:=dx a0 0
         clear zw
         have zy : (0 < (a0.size : Int)) = True:=eq_true (of_decide_eq_true (by first|(with_reducible assumption)|assumption))
         replace zk:=eq_true zk
         go_wp2_with (first|(go_at_call 66;(with_reducible refine (cu.calls  xI _ A4.out).mono ?_);rintro e w' ⟨rfl,⟨nd,rfl⟩⟩;(try first|exact ⟨rfl,_,World.drewN_drewN _ _ _⟩|exact ⟨rfl,_,Eq.trans (World.drewN_drewN _ _ _) (congrArg (World.drewN _) (Nat.add_assoc _ _ _))⟩))|(go_at_call 67;(with_reducible refine (dV.calls  xL _ A5.out).mono ?_);rintro e w' ⟨rfl,⟨nd,rfl⟩⟩;(try first|exact ⟨rfl,_,World.drewN_drewN _ _ _⟩|exact ⟨rfl,_,Eq.trans (World.drewN_drewN _ _ _) (congrArg (World.drewN _) (Nat.add_assoc _ _ _))⟩))|(go_at_call 68;(with_reducible refine (bO.calls  xK _ A7.out).mono ?_);rintro e w' ⟨rfl,⟨nd,rfl⟩⟩;(try first|exact ⟨rfl,_,World.drewN_drewN _ _ _⟩|exact ⟨rfl,_,Eq.trans (World.drewN_drewN _ _ _) (congrArg (World.drewN _) (Nat.add_assoc _ _ _))⟩))|(go_at_call 65;(with_reducible refine (bA.calls k a0 (((xI ++ xL) ++ xK) ++ (⟨#[46,95,45,47,58,64]⟩ : ByteArray)) true _ yE.out).mono ?_);rintro e w' ⟨rfl,⟨nd,rfl⟩⟩;(try first|exact ⟨rfl,_,World.drewN_drewN _ _ _⟩|exact ⟨rfl,_,Eq.trans (World.drewN_drewN _ _ _) (congrArg (World.drewN _) (Nat.add_assoc _ _ _))⟩))|(go_at_call 66;(with_reducible refine (cu.calls  xI _ yT.out).mono ?_);rintro e w' ⟨rfl,⟨nd,rfl⟩⟩;(try first|exact ⟨rfl,_,World.drewN_drewN _ _ _⟩|exact ⟨rfl,_,Eq.trans (World.drewN_drewN _ _ _) (congrArg (World.drewN _) (Nat.add_assoc _ _ _))⟩))|(go_at_call 68;(with_reducible refine (bO.calls  xK _ yU.out).mono ?_);rintro e w' ⟨rfl,⟨nd,rfl⟩⟩;(try first|exact ⟨rfl,_,World.drewN_drewN _ _ _⟩|exact ⟨rfl,_,Eq.trans (World.drewN_drewN _ _ _) (congrArg (World.drewN _) (Nat.add_assoc _ _ _))⟩))|(go_at_call 69;(with_reducible refine (bH.calls k (bt a0 0) (xI ++ xK) xR _ yZ.out).mono ?_);rintro e w' ⟨rfl,⟨nd,rfl⟩⟩;(try first|exact ⟨rfl,_,World.drewN_drewN _ _ _⟩|exact ⟨rfl,_,Eq.trans (World.drewN_drewN _ _ _) (congrArg (World.drewN _) (Nat.add_assoc _ _ _))⟩)))
         repeat (go_quiet (first|(go_at_call 66;(with_reducible refine (cu.calls  xI _ A4.out).mono ?_);rintro e w' ⟨rfl,⟨nd,rfl⟩⟩;(try first|exact ⟨rfl,_,World.drewN_drewN _ _ _⟩|exact ⟨rfl,_,Eq.trans (World.drewN_drewN _ _ _) (congrArg (World.drewN _) (Nat.add_assoc _ _ _))⟩))|(go_at_call 67;(with_reducible refine (dV.calls  xL _ A5.out).mono ?_);rintro e w' ⟨rfl,⟨nd,rfl⟩⟩;(try first|exact ⟨rfl,_,World.drewN_drewN _ _ _⟩|exact ⟨rfl,_,Eq.trans (World.drewN_drewN _ _ _) (congrArg (World.drewN _) (Nat.add_assoc _ _ _))⟩))|(go_at_call 68;(with_reducible refine (bO.calls  xK _ A7.out).mono ?_);rintro e w' ⟨rfl,⟨nd,rfl⟩⟩;(try first|exact ⟨rfl,_,World.drewN_drewN _ _ _⟩|exact ⟨rfl,_,Eq.trans (World.drewN_drewN _ _ _) (congrArg (World.drewN _) (Nat.add_assoc _ _ _))⟩))|(go_at_call 65;(with_reducible refine (bA.calls k a0 (((xI ++ xL) ++ xK) ++ (⟨#[46,95,45,47,58,64]⟩ : ByteArray)) true _ yE.out).mono ?_);rintro e w' ⟨rfl,⟨nd,rfl⟩⟩;(try first|exact ⟨rfl,_,World.drewN_drewN _ _ _⟩|exact ⟨rfl,_,Eq.trans (World.drewN_drewN _ _ _) (congrArg (World.drewN _) (Nat.add_assoc _ _ _))⟩))|(go_at_call 66;(with_reducible refine (cu.calls  xI _ yT.out).mono ?_);rintro e w' ⟨rfl,⟨nd,rfl⟩⟩;(try first|exact ⟨rfl,_,World.drewN_drewN _ _ _⟩|exact ⟨rfl,_,Eq.trans (World.drewN_drewN _ _ _) (congrArg (World.drewN _) (Nat.add_assoc _ _ _))⟩))|(go_at_call 68;(with_reducible refine (bO.calls  xK _ yU.out).mono ?_);rintro e w' ⟨rfl,⟨nd,rfl⟩⟩;(try first|exact ⟨rfl,_,World.drewN_drewN _ _ _⟩|exact ⟨rfl,_,Eq.trans (World.drewN_drewN _ _ _) (congrArg (World.drewN _) (Nat.add_assoc _ _ _))⟩))|(go_at_call 69;(with_reducible refine (bH.calls k (bt a0 0) (xI ++ xK) xR _ yZ.out).mono ?_);rintro e w' ⟨rfl,⟨nd,rfl⟩⟩;(try first|exact ⟨rfl,_,World.drewN_drewN _ _ _⟩|exact ⟨rfl,_,Eq.trans (World.drewN_drewN _ _ _) (congrArg (World.drewN _) (Nat.add_assoc _ _ _))⟩)));try go_wp2_with (first|(go_at_call 66;(with_reducible refine (cu.calls  xI _ A4.out).mono ?_);rintro e w' ⟨rfl,⟨nd,rfl⟩⟩;(try first|exact ⟨rfl,_,World.drewN_drewN _ _ _⟩|exact ⟨rfl,_,Eq.trans (World.drewN_drewN _ _ _) (congrArg (World.drewN _) (Nat.add_assoc _ _ _))⟩))|(go_at_call 67;(with_reducible refine (dV.calls  xL _ A5.out).mono ?_);rintro e w' ⟨rfl,⟨nd,rfl⟩⟩;(try first|exact ⟨rfl,_,World.drewN_drewN _ _ _⟩|exact ⟨rfl,_,Eq.trans (World.drewN_drewN _ _ _) (congrArg (World.drewN _) (Nat.add_assoc _ _ _))⟩))|(go_at_call 68;(with_reducible refine (bO.calls  xK _ A7.out).mono ?_);rintro e w' ⟨rfl,⟨nd,rfl⟩⟩;(try first|exact ⟨rfl,_,World.drewN_drewN _ _ _⟩|exact ⟨rfl,_,Eq.trans (World.drewN_drewN _ _ _) (congrArg (World.drewN _) (Nat.add_assoc _ _ _))⟩))|(go_at_call 65;(with_reducible refine (bA.calls k a0 (((xI ++ xL) ++ xK) ++ (⟨#[46,95,45,47,58,64]⟩ : ByteArray)) true _ yE.out).mono ?_);rintro e w' ⟨rfl,⟨nd,rfl⟩⟩;(try first|exact ⟨rfl,_,World.drewN_drewN _ _ _⟩|exact ⟨rfl,_,Eq.trans (World.drewN_drewN _ _ _) (congrArg (World.drewN _) (Nat.add_assoc _ _ _))⟩))|(go_at_call 66;(with_reducible refine (cu.calls  xI _ yT.out).mono ?_);rintro e w' ⟨rfl,⟨nd,rfl⟩⟩;(try first|exact ⟨rfl,_,World.drewN_drewN _ _ _⟩|exact ⟨rfl,_,Eq.trans (World.drewN_drewN _ _ _) (congrArg (World.drewN _) (Nat.add_assoc _ _ _))⟩))|(go_at_call 68;(with_reducible refine (bO.calls  xK _ yU.out).mono ?_);rintro e w' ⟨rfl,⟨nd,rfl⟩⟩;(try first|exact ⟨rfl,_,World.drewN_drewN _ _ _⟩|exact ⟨rfl,_,Eq.trans (World.drewN_drewN _ _ _) (congrArg (World.drewN _) (Nat.add_assoc _ _ _))⟩))|(go_at_call 69;(with_reducible refine (bH.calls k (bt a0 0) (xI ++ xK) xR _ yZ.out).mono ?_);rintro e w' ⟨rfl,⟨nd,rfl⟩⟩;(try first|exact ⟨rfl,_,World.drewN_drewN _ _ _⟩|exact ⟨rfl,_,Eq.trans (World.drewN_drewN _ _ _) (congrArg (World.drewN _) (Nat.add_assoc _ _ _))⟩))))
         go_ret
         exact ⟨by first|rfl|(simp;done)|(simp [*];done),by repeat (first|exact Drawn0.refl _|apply Drawn0.step)⟩
        ·rw [if_neg c16] at H
         exact absurd H (by simp)
       ·rw [if_neg c12] at H
        exact absurd H (by simp)
      ·replace c11:=Bool.eq_false_iff.mpr c11
       subst c11
       have H1 : (some false) = some r:=by rw [if_neg (show ¬ (false = true) by decide)] at H;exact H
       clear H
       have H:=H1
       clear H1
       obtain rfl:=Option.some.inj H
       go_enter Tryd.func36,Tryd.ntmps36
       go_wp2_with (first|(go_at_call 66;(with_reducible refine (cu.calls  xI _ A4.out).mono ?_);rintro e w' ⟨rfl,⟨nd,rfl⟩⟩;(try first|exact ⟨rfl,_,World.drewN_drewN _ _ _⟩|exact ⟨rfl,_,Eq.trans (World.drewN_drewN _ _ _) (congrArg (World.drewN _) (Nat.add_assoc _ _ _))⟩))|(go_at_call 67;(with_reducible refine (dV.calls  xL _ A5.out).mono ?_);rintro e w' ⟨rfl,⟨nd,rfl⟩⟩;(try first|exact ⟨rfl,_,World.drewN_drewN _ _ _⟩|exact ⟨rfl,_,Eq.trans (World.drewN_drewN _ _ _) (congrArg (World.drewN _) (Nat.add_assoc _ _ _))⟩))|(go_at_call 68;(with_reducible refine (bO.calls  xK _ A7.out).mono ?_);rintro e w' ⟨rfl,⟨nd,rfl⟩⟩;(try first|exact ⟨rfl,_,World.drewN_drewN _ _ _⟩|exact ⟨rfl,_,Eq.trans (World.drewN_drewN _ _ _) (congrArg (World.drewN _) (Nat.add_assoc _ _ _))⟩))|(go_at_call 65;(with_reducible refine (bA.calls k a0 (((xI ++ xL) ++ xK) ++ (⟨#[46,95,45,47,58,64]⟩ : ByteArray)) false _ yE.out).mono ?_);rintro e w' ⟨rfl,⟨nd,rfl⟩⟩;(try first|exact ⟨rfl,_,World.drewN_drewN _ _ _⟩|exact ⟨rfl,_,Eq.trans (World.drewN_drewN _ _ _) (congrArg (World.drewN _) (Nat.add_assoc _ _ _))⟩)))
       repeat (go_quiet (first|(go_at_call 66;(with_reducible refine (cu.calls  xI _ A4.out).mono ?_);rintro e w' ⟨rfl,⟨nd,rfl⟩⟩;(try first|exact ⟨rfl,_,World.drewN_drewN _ _ _⟩|exact ⟨rfl,_,Eq.trans (World.drewN_drewN _ _ _) (congrArg (World.drewN _) (Nat.add_assoc _ _ _))⟩))|(go_at_call 67;(with_reducible refine (dV.calls  xL _ A5.out).mono ?_);rintro e w' ⟨rfl,⟨nd,rfl⟩⟩;(try first|exact ⟨rfl,_,World.drewN_drewN _ _ _⟩|exact ⟨rfl,_,Eq.trans (World.drewN_drewN _ _ _) (congrArg (World.drewN _) (Nat.add_assoc _ _ _))⟩))|(go_at_call 68;(with_reducible refine (bO.calls  xK _ A7.out).mono ?_);rintro e w' ⟨rfl,⟨nd,rfl⟩⟩;(try first|exact ⟨rfl,_,World.drewN_drewN _ _ _⟩|exact ⟨rfl,_,Eq.trans (World.drewN_drewN _ _ _) (congrArg (World.drewN _) (Nat.add_assoc _ _ _))⟩))|(go_at_call 65;(with_reducible refine (bA.calls k a0 (((xI ++ xL) ++ xK) ++ (⟨#[46,95,45,47,58,64]⟩ : ByteArray)) false _ yE.out).mono ?_);rintro e w' ⟨rfl,⟨nd,rfl⟩⟩;(try first|exact ⟨rfl,_,World.drewN_drewN _ _ _⟩|exact ⟨rfl,_,Eq.trans (World.drewN_drewN _ _ _) (congrArg (World.drewN _) (Nat.add_assoc _ _ _))⟩)));try go_wp2_with (first|(go_at_call 66;(with_reducible refine (cu.calls  xI _ A4.out).mono ?_);rintro e w' ⟨rfl,⟨nd,rfl⟩⟩;(try first|exact ⟨rfl,_,World.drewN_drewN _ _ _⟩|exact ⟨rfl,_,Eq.trans (World.drewN_drewN _ _ _) (congrArg (World.drewN _) (Nat.add_assoc _ _ _))⟩))|(go_at_call 67;(with_reducible refine (dV.calls  xL _ A5.out).mono ?_);rintro e w' ⟨rfl,⟨nd,rfl⟩⟩;(try first|exact ⟨rfl,_,World.drewN_drewN _ _ _⟩|exact ⟨rfl,_,Eq.trans (World.drewN_drewN _ _ _) (congrArg (World.drewN _) (Nat.add_assoc _ _ _))⟩))|(go_at_call 68;(with_reducible refine (bO.calls  xK _ A7.out).mono ?_);rintro e w' ⟨rfl,⟨nd,rfl⟩⟩;(try first|exact ⟨rfl,_,World.drewN_drewN _ _ _⟩|exact ⟨rfl,_,Eq.trans (World.drewN_drewN _ _ _) (congrArg (World.drewN _) (Nat.add_assoc _ _ _))⟩))|(go_at_call 65;(with_reducible refine (bA.calls k a0 (((xI ++ xL) ++ xK) ++ (⟨#[46,95,45,47,58,64]⟩ : ByteArray)) false _ yE.out).mono ?_);rintro e w' ⟨rfl,⟨nd,rfl⟩⟩;(try first|exact ⟨rfl,_,World.drewN_drewN _ _ _⟩|exact ⟨rfl,_,Eq.trans (World.drewN_drewN _ _ _) (congrArg (World.drewN _) (Nat.add_assoc _ _ _))⟩))))
       go_ret
       exact ⟨by first|rfl|(simp;done)|(simp [*];done),by repeat (first|exact Drawn0.refl _|apply Drawn0.step)⟩
     ·rw [if_neg c9] at H
      exact absurd H (by simp)
    ·rw [if_neg c8] at H
     exact absurd H (by simp)
   ·rw [if_neg c6] at H
    exact absurd H (by simp)
  ·rw [if_neg c3] at H
   have c3b0 : decide ((a0.size : Int) ≤ 255) = false:=decide_eq_false c3
   have c3b1 : decide (a0.size ≤ 255) = false:=decide_eq_false (by omega)
   clear c3
   obtain rfl:=Option.some.inj H
   go_enter Tryd.func36,Tryd.ntmps36
   go_wp2
   repeat (go_quiet (fail);try go_wp2)
   go_ret
   exact ⟨by first|rfl|(simp;done)|(simp [*];done),by repeat (first|exact Drawn0.refl _|apply Drawn0.step)⟩
 ·rw [if_neg c2] at H
  have c2b0 : decide (1 ≤ (a0.size : Int)) = false:=decide_eq_false c2
  have c2b1 : decide (1 ≤ a0.size) = false:=decide_eq_false (by omega)
  clear c2
  obtain rfl:=Option.some.inj H
  go_enter Tryd.func36,Tryd.ntmps36
  go_wp2
  repeat (go_quiet (fail);try go_wp2)
  go_ret
  exact ⟨by first|rfl|(simp;done)|(simp [*];done),by repeat (first|exact Drawn0.refl _|apply Drawn0.step)⟩
end Go.Proofs.YtpmbdcljphpcnaaDoor.GC2
