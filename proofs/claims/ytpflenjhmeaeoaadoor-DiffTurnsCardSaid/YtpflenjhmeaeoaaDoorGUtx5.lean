/- Written by this session's own program (wip/gen.py) out of the translation: plain Lean functions of the Go functions, and proofs that the calls come to their answers. No conditions beside those in the statements. -/
import Derived.Test.YtpflenjhmeaeoaaDoorCp
import Derived.Test.YtpflenjhmeaeoaaDoorGUtx0
import Derived.Test.YtpflenjhmeaeoaaDoorGUtx1
import Derived.Test.YtpflenjhmeaeoaaDoorGUtx2
import Derived.Test.YtpflenjhmeaeoaaDoorGUtx4
namespace Go.Proofs.YtpflenjhmeaeoaaDoor.GUt
open Go.RowKit Go.Proofs.YtpflenjhmeaeoaaDoorW.PrintWords Go.Proofs.YtpflenjhmeaeoaaDoorW.PrintLast Go.Proofs.YtpflenjhmeaeoaaDoorW.PrintMore
attribute [local go_sem] fC fD gu gD eP eT fE fF
set_option linter.unusedVariables false
set_option linter.unusedSimpArgs false
attribute [local go_sem high] zD zF
def dH.l0 : Nat → List (S46) → List (S46) → Int → Int → Option (Bool)
 | 0,_,_,_,_=>none
 | k + 1,x0,x1,Dk,BU=>if BU < Dk then (if 0 ≤ BU then (if BU < (x0.length : Int) then (if BU < (x1.length : Int) then (if (!(((gN x0 BU).f0) == ((gN x1 BU).f0)) || (!(((gN x0 BU).f1) == ((gN x1 BU).f1)))) = true then (some false) else (dH.l0 k x0 x1 Dk (wrap64 (BU + 1)))) else (none)) else (none)) else (none)) else (some true)
def dH.f (k : Nat) (l0 : List (S46)) (l1 : List (S46)) : Option (Bool):=if (l0.length : Int) = (l1.length : Int) then (dH.l0 k l0 l1 (l0.length : Int) 0) else (some false)
theorem dH.dV : ∀ k,(∀ y0 y1 y2 y3,LeO (dH.l0 k y0 y1 y2 y3) (dH.l0 (k + 1) y0 y1 y2 y3))
 | 0=>fun _ _ _ _ r h=>by simp [dH.l0] at h
 | k + 1=>by
  have Cr:=dH.dV k
  ·intro y0 y1 y2 y3
   unfold dH.l0
   repeat' first
   | (with_reducible exact Cr _ _ _ _)
   | (with_reducible exact LeO.refl _)
   | (with_reducible exact LeO.none _)
   | (with_reducible refine LeO.ite ?_ ?_)
   | (with_reducible refine LeO.bind ?_ (fun _=>?_))
   | exact Cr _ _ _ _
   | exact LeO.none _
   | refine LeO.ite ?_ ?_
   | refine LeO.bind ?_ (fun _=>?_)
theorem dH.mono : ∀ a0 a1 k,LeO (dH.f k a0 a1) (dH.f (k + 1) a0 a1):=by
 intro a0 a1 k
 have Cr:=dH.dV k
 unfold dH.f
 repeat' first
   | (with_reducible exact Cr _ _ _ _)
   | (with_reducible exact LeO.refl _)
   | (with_reducible exact LeO.none _)
   | (with_reducible refine LeO.ite ?_ ?_)
   | (with_reducible refine LeO.bind ?_ (fun _=>?_))
   | exact Cr _ _ _ _
   | exact LeO.none _
   | refine LeO.ite ?_ ?_
   | refine LeO.bind ?_ (fun _=>?_)
set_option maxHeartbeats 8000000 in
set_option maxRecDepth 100000 in
theorem dH.calls (k : Nat) (A0 : Option Addr) (c0 : Nat) (l0 : List (S46)) (A1 : Option Addr) (c1 : Nat) (l1 : List (S46)) (r : Bool) (w : World) (hr0 : Kd.C k46 w A0 l0.length l0) (hc0 : l0.length ≤ c0) (hr1 : Kd.C k46 w A1 l1.length l1) (hc1 : l1.length ≤ c1) (h : dH.f k l0 l1 = some r) :
  Calls Tryd.prog 76 #[.slice A0 l0.length c0,.slice A1 l1.length c1] w fun e w'=>e = .returned (.bool r) ∧ Drawn0 w w':=by
 have Ji:=Tryd.underlying46
 have Dl:=Aside0.mk hr0
 have Jj:=Aside0.mk hc0
 clear hr0 hc0
 have HR1:=Aside0.mk hr1
 have Jk:=Aside0.mk hc1
 clear hr1 hc1
 have H : (if (l0.length : Int) = (l1.length : Int) then (dH.l0 k l0 l1 (l0.length : Int) 0) else (some false)) = some r:=h
 clear h
 by_cases c3 : (l0.length : Int) = (l1.length : Int)
 ·rw [if_pos c3] at H
  have c3b0 : ((l0.length : Int) == (l1.length : Int)) = true:=beq_iff_eq.mpr c3
  have c3b1 : ((l0.length : Int) != (l1.length : Int)) = false:=bne_eq_false_iff_eq.mpr c3
  have c3b2 : (l0.length == l1.length) = true:=by first|simpa using c3|(simp at c3 ⊢;omega)
  clear c3
  have H':=Aside0.mk H
  clear H
  go_enter Tryd.func76,Tryd.ntmps76
  go_wp2
  repeat (go_quiet (fail);try go_wp2)
  go_loopg [13] k (fun kq v13 w'=>∃ (Aq : Int),v13 = .int .i64 Aq ∧ Aside0 (dH.l0 kq l0 l1 (l0.length : Int) Aq = some r) ∧ Aside0 (kq ≤ k) ∧ Drawn0 w w')
  case atStart=>exact ⟨(0),(by first|rfl|(simp;done)|(simp [*];done)),H',⟨Nat.le_refl _⟩,by repeat (first|exact Drawn0.refl _|apply Drawn0.step)⟩
  case round =>
   clear H'
   try clear c1
   try clear p2
   try clear c3
   try clear c3b0
   try clear c3b1
   try clear c3b2
   obtain ⟨Aq,rfl,HA,Dm,⟨m1,rfl⟩⟩:=hrel
   cases gk with
   | zero=>exact absurd HA.out (by simp [dH.l0])
   | succ k1 =>
    have H:=HA.out
    clear HA
    simp only [dH.l0] at H
    by_cases c4 : Aq < (l0.length : Int)
    ·rw [if_pos c4] at H
     have c4b0 : decide (Aq < (l0.length : Int)) = true:=decide_eq_true c4
     clear c4
     by_cases c5 : 0 ≤ Aq
     ·rw [if_pos c5] at H
      have c5b0 : decide (0 ≤ Aq) = true:=decide_eq_true c5
      clear c5
      by_cases c6 : Aq < (l0.length : Int)
      ·rw [if_pos c6] at H
       have c6b0 : decide (Aq < (l0.length : Int)) = true:=decide_eq_true c6
       clear c6
       by_cases c7 : Aq < (l1.length : Int)
       ·rw [if_pos c7] at H
        have c7b0 : decide (Aq < (l1.length : Int)) = true:=decide_eq_true c7
        clear c7
        by_cases c8 : (!(((gN l0 Aq).f0) == ((gN l1 Aq).f0)) || (!(((gN l0 Aq).f1) == ((gN l1 Aq).f1)))) = true
        ·rw [if_pos c8] at H
         have c8b0 : (!(((gN l0 Aq).f0) == ((gN l1 Aq).f0)) || (!(((gN l0 Aq).f1) == ((gN l1 Aq).f1)))) = true:=c8
         clear c8
         obtain rfl:=Option.some.inj H
         have BX : 0 ≤ (Aq : Int):=of_decide_eq_true (by first|(with_reducible assumption)|assumption)
         have BZ : Aq < (l0.length : Int):=of_decide_eq_true (by first|(with_reducible assumption)|assumption)
         obtain ⟨Dn,e118,Cz,CB⟩:=nZ Dl.out Aq BX BZ
         cases e118
         replace BX:=eq_true BX
         replace BZ:=eq_true BZ
         have Ca : 0 ≤ (Aq : Int):=of_decide_eq_true (by first|(with_reducible assumption)|assumption)
         have Cb : Aq < (l1.length : Int):=of_decide_eq_true (by first|(with_reducible assumption)|assumption)
         obtain ⟨Dp,e119,CF,CG⟩:=nZ HR1.out Aq Ca Cb
         cases e119
         replace Ca:=eq_true Ca
         replace Cb:=eq_true Cb
         go_wp2
         repeat (go_quiet (fail);try go_wp2)
         go_ret
         exact ⟨by first|rfl|(simp;done)|(simp [*];done),by repeat (first|exact Drawn0.refl _|apply Drawn0.step)⟩
        ·rw [if_neg c8] at H
         have c8b0 : (!(((gN l0 Aq).f0) == ((gN l1 Aq).f0)) || (!(((gN l0 Aq).f1) == ((gN l1 Aq).f1)))) = false:=by simpa using c8
         clear c8
         have H':=Aside0.mk H
         clear H
         have BX : 0 ≤ (Aq : Int):=of_decide_eq_true (by first|(with_reducible assumption)|assumption)
         have BZ : Aq < (l0.length : Int):=of_decide_eq_true (by first|(with_reducible assumption)|assumption)
         obtain ⟨Dn,e118,Cz,CB⟩:=nZ Dl.out Aq BX BZ
         cases e118
         replace BX:=eq_true BX
         replace BZ:=eq_true BZ
         have Ca : 0 ≤ (Aq : Int):=of_decide_eq_true (by first|(with_reducible assumption)|assumption)
         have Cb : Aq < (l1.length : Int):=of_decide_eq_true (by first|(with_reducible assumption)|assumption)
         obtain ⟨Dp,e119,CF,CG⟩:=nZ HR1.out Aq Ca Cb
         cases e119
         replace Ca:=eq_true Ca
         replace Cb:=eq_true Cb
         go_wp2
         repeat (go_quiet (fail);try go_wp2)
         go_roundg k1
         case measure=>have:=Dm.out;omega
         case rel=>exact ⟨(wrap64 (Aq + 1)),(by first|rfl|(simp;done)|(simp [*];done)),H',⟨by have:=Dm.out;omega⟩,by repeat (first|exact Drawn0.refl _|apply Drawn0.step)⟩
       ·rw [if_neg c7] at H
        exact absurd H (by simp)
      ·rw [if_neg c6] at H
       exact absurd H (by simp)
     ·rw [if_neg c5] at H
      exact absurd H (by simp)
    ·rw [if_neg c4] at H
     have c4b0 : decide (Aq < (l0.length : Int)) = false:=decide_eq_false c4
     clear c4
     obtain rfl:=Option.some.inj H
     go_wp2
     repeat (go_quiet (fail);try go_wp2)
     go_ret
     exact ⟨by first|rfl|(simp;done)|(simp [*];done),by repeat (first|exact Drawn0.refl _|apply Drawn0.step)⟩
 ·rw [if_neg c3] at H
  have c3b0 : ((l0.length : Int) == (l1.length : Int)) = false:=beq_eq_false_iff_ne.mpr c3
  have c3b1 : ((l0.length : Int) != (l1.length : Int)) = true:=bne_iff_ne.mpr c3
  have c3b2 : (l0.length == l1.length) = false:=by first|simpa using c3|(simp at c3 ⊢;omega)
  obtain rfl:=Option.some.inj H
  go_enter Tryd.func76,Tryd.ntmps76
  go_wp2
  repeat (go_quiet (fail);try go_wp2)
  go_ret
  exact ⟨by first|rfl|(simp;done)|(simp [*];done),by repeat (first|exact Drawn0.refl _|apply Drawn0.step)⟩
def dM.l0 : Nat → List (S82) → List (S82) → Int → Int → Option (Bool)
 | 0,_,_,_,_=>none
 | k + 1,x0,x1,Dk,BU=>if BU < Dk then (if 0 ≤ BU then (if BU < (x0.length : Int) then (if BU < (x1.length : Int) then (if (!((((fT x0 BU).f0).toList) == (((fT x1 BU).f0).toList)) || (!((((fT x0 BU).f1).toList) == (((fT x1 BU).f1).toList)))) = true then (some false) else (dM.l0 k x0 x1 Dk (wrap64 (BU + 1)))) else (none)) else (none)) else (none)) else (some true)
def dM.f (k : Nat) (l0 : List (S82)) (l1 : List (S82)) : Option (Bool):=if (l0.length : Int) = (l1.length : Int) then (dM.l0 k l0 l1 (l0.length : Int) 0) else (some false)
theorem dM.dV : ∀ k,(∀ y0 y1 y2 y3,LeO (dM.l0 k y0 y1 y2 y3) (dM.l0 (k + 1) y0 y1 y2 y3))
 | 0=>fun _ _ _ _ r h=>by simp [dM.l0] at h
 | k + 1=>by
  have Cr:=dM.dV k
  ·intro y0 y1 y2 y3
   unfold dM.l0
   repeat' first
   | (with_reducible exact Cr _ _ _ _)
   | (with_reducible exact LeO.refl _)
   | (with_reducible exact LeO.none _)
   | (with_reducible refine LeO.ite ?_ ?_)
   | (with_reducible refine LeO.bind ?_ (fun _=>?_))
   | exact Cr _ _ _ _
   | exact LeO.none _
   | refine LeO.ite ?_ ?_
   | refine LeO.bind ?_ (fun _=>?_)
theorem dM.mono : ∀ a0 a1 k,LeO (dM.f k a0 a1) (dM.f (k + 1) a0 a1):=by
 intro a0 a1 k
 have Cr:=dM.dV k
 unfold dM.f
 repeat' first
   | (with_reducible exact Cr _ _ _ _)
   | (with_reducible exact LeO.refl _)
   | (with_reducible exact LeO.none _)
   | (with_reducible refine LeO.ite ?_ ?_)
   | (with_reducible refine LeO.bind ?_ (fun _=>?_))
   | exact Cr _ _ _ _
   | exact LeO.none _
   | refine LeO.ite ?_ ?_
   | refine LeO.bind ?_ (fun _=>?_)
set_option maxHeartbeats 8000000 in
set_option maxRecDepth 100000 in
theorem dM.calls (k : Nat) (A0 : Option Addr) (c0 : Nat) (l0 : List (S82)) (A1 : Option Addr) (c1 : Nat) (l1 : List (S82)) (r : Bool) (w : World) (hr0 : Kd.C k82 w A0 l0.length l0) (hc0 : l0.length ≤ c0) (hr1 : Kd.C k82 w A1 l1.length l1) (hc1 : l1.length ≤ c1) (h : dM.f k l0 l1 = some r) :
  Calls Tryd.prog 77 #[.slice A0 l0.length c0,.slice A1 l1.length c1] w fun e w'=>e = .returned (.bool r) ∧ Drawn0 w w':=by
 have Jl:=Tryd.underlying82
 have Dl:=Aside0.mk hr0
 have Jj:=Aside0.mk hc0
 clear hr0 hc0
 have HR1:=Aside0.mk hr1
 have Jk:=Aside0.mk hc1
 clear hr1 hc1
 have H : (if (l0.length : Int) = (l1.length : Int) then (dM.l0 k l0 l1 (l0.length : Int) 0) else (some false)) = some r:=h
 clear h
 by_cases c3 : (l0.length : Int) = (l1.length : Int)
 ·rw [if_pos c3] at H
  have c3b0 : ((l0.length : Int) == (l1.length : Int)) = true:=beq_iff_eq.mpr c3
  have c3b1 : ((l0.length : Int) != (l1.length : Int)) = false:=bne_eq_false_iff_eq.mpr c3
  have c3b2 : (l0.length == l1.length) = true:=by first|simpa using c3|(simp at c3 ⊢;omega)
  clear c3
  have H':=Aside0.mk H
  clear H
  go_enter Tryd.func77,Tryd.ntmps77
  go_wp2
  repeat (go_quiet (fail);try go_wp2)
  go_loopg [13] k (fun kq v13 w'=>∃ (Aq : Int),v13 = .int .i64 Aq ∧ Aside0 (dM.l0 kq l0 l1 (l0.length : Int) Aq = some r) ∧ Aside0 (kq ≤ k) ∧ Drawn0 w w')
  case atStart=>exact ⟨(0),(by first|rfl|(simp;done)|(simp [*];done)),H',⟨Nat.le_refl _⟩,by repeat (first|exact Drawn0.refl _|apply Drawn0.step)⟩
  case round =>
   clear H'
   try clear c1
   try clear p2
   try clear c3
   try clear c3b0
   try clear c3b1
   try clear c3b2
   obtain ⟨Aq,rfl,HA,Dm,⟨m1,rfl⟩⟩:=hrel
   cases gk with
   | zero=>exact absurd HA.out (by simp [dM.l0])
   | succ k1 =>
    have H:=HA.out
    clear HA
    simp only [dM.l0] at H
    by_cases c4 : Aq < (l0.length : Int)
    ·rw [if_pos c4] at H
     have c4b0 : decide (Aq < (l0.length : Int)) = true:=decide_eq_true c4
     clear c4
     by_cases c5 : 0 ≤ Aq
     ·rw [if_pos c5] at H
      have c5b0 : decide (0 ≤ Aq) = true:=decide_eq_true c5
      clear c5
      by_cases c6 : Aq < (l0.length : Int)
      ·rw [if_pos c6] at H
       have c6b0 : decide (Aq < (l0.length : Int)) = true:=decide_eq_true c6
       clear c6
       by_cases c7 : Aq < (l1.length : Int)
       ·rw [if_pos c7] at H
        have c7b0 : decide (Aq < (l1.length : Int)) = true:=decide_eq_true c7
        clear c7
        by_cases c8 : (!((((fT l0 Aq).f0).toList) == (((fT l1 Aq).f0).toList)) || (!((((fT l0 Aq).f1).toList) == (((fT l1 Aq).f1).toList)))) = true
        ·rw [if_pos c8] at H
         have c8b0 : (!((((fT l0 Aq).f0).toList) == (((fT l1 Aq).f0).toList)) || (!((((fT l0 Aq).f1).toList) == (((fT l1 Aq).f1).toList)))) = true:=c8
         clear c8
         obtain rfl:=Option.some.inj H
         have Cc : 0 ≤ (Aq : Int):=of_decide_eq_true (by first|(with_reducible assumption)|assumption)
         have Ce : Aq < (l0.length : Int):=of_decide_eq_true (by first|(with_reducible assumption)|assumption)
         obtain ⟨Dq,e120,CJ,CK⟩:=mH Dl.out Aq Cc Ce
         cases e120
         replace Cc:=eq_true Cc
         replace Ce:=eq_true Ce
         have Cg : 0 ≤ (Aq : Int):=of_decide_eq_true (by first|(with_reducible assumption)|assumption)
         have Ch : Aq < (l1.length : Int):=of_decide_eq_true (by first|(with_reducible assumption)|assumption)
         obtain ⟨Dr,Dj,CO,CP⟩:=mH HR1.out Aq Cg Ch
         cases Dj
         replace Cg:=eq_true Cg
         replace Ch:=eq_true Ch
         go_wp2
         repeat (go_quiet (fail);try go_wp2)
         go_ret
         exact ⟨by first|rfl|(simp;done)|(simp [*];done),by repeat (first|exact Drawn0.refl _|apply Drawn0.step)⟩
        ·rw [if_neg c8] at H
         have c8b0 : (!((((fT l0 Aq).f0).toList) == (((fT l1 Aq).f0).toList)) || (!((((fT l0 Aq).f1).toList) == (((fT l1 Aq).f1).toList)))) = false:=by simpa using c8
         clear c8
         have H':=Aside0.mk H
         clear H
         have Cc : 0 ≤ (Aq : Int):=of_decide_eq_true (by first|(with_reducible assumption)|assumption)
         have Ce : Aq < (l0.length : Int):=of_decide_eq_true (by first|(with_reducible assumption)|assumption)
         obtain ⟨Dq,e120,CJ,CK⟩:=mH Dl.out Aq Cc Ce
         cases e120
         replace Cc:=eq_true Cc
         replace Ce:=eq_true Ce
         have Cg : 0 ≤ (Aq : Int):=of_decide_eq_true (by first|(with_reducible assumption)|assumption)
         have Ch : Aq < (l1.length : Int):=of_decide_eq_true (by first|(with_reducible assumption)|assumption)
         obtain ⟨Dr,Dj,CO,CP⟩:=mH HR1.out Aq Cg Ch
         cases Dj
         replace Cg:=eq_true Cg
         replace Ch:=eq_true Ch
         go_wp2
         repeat (go_quiet (fail);try go_wp2)
         go_roundg k1
         case measure=>have:=Dm.out;omega
         case rel=>exact ⟨(wrap64 (Aq + 1)),(by first|rfl|(simp;done)|(simp [*];done)),H',⟨by have:=Dm.out;omega⟩,by repeat (first|exact Drawn0.refl _|apply Drawn0.step)⟩
       ·rw [if_neg c7] at H
        exact absurd H (by simp)
      ·rw [if_neg c6] at H
       exact absurd H (by simp)
     ·rw [if_neg c5] at H
      exact absurd H (by simp)
    ·rw [if_neg c4] at H
     have c4b0 : decide (Aq < (l0.length : Int)) = false:=decide_eq_false c4
     clear c4
     obtain rfl:=Option.some.inj H
     go_wp2
     repeat (go_quiet (fail);try go_wp2)
     go_ret
     exact ⟨by first|rfl|(simp;done)|(simp [*];done),by repeat (first|exact Drawn0.refl _|apply Drawn0.step)⟩
 ·rw [if_neg c3] at H
  have c3b0 : ((l0.length : Int) == (l1.length : Int)) = false:=beq_eq_false_iff_ne.mpr c3
  have c3b1 : ((l0.length : Int) != (l1.length : Int)) = true:=bne_iff_ne.mpr c3
  have c3b2 : (l0.length == l1.length) = false:=by first|simpa using c3|(simp at c3 ⊢;omega)
  obtain rfl:=Option.some.inj H
  go_enter Tryd.func77,Tryd.ntmps77
  go_wp2
  repeat (go_quiet (fail);try go_wp2)
  go_ret
  exact ⟨by first|rfl|(simp;done)|(simp [*];done),by repeat (first|exact Drawn0.refl _|apply Drawn0.step)⟩
def dY.f (k : Nat) (AB : ByteArray) (AJ : ByteArray) (AA : List ByteArray) (Az : List (S46)) (AL : Int) (AO : Int) (Au : List (S82)) (Bh : ByteArray) (Bj : ByteArray) (Bg : List ByteArray) (Bf : List (S46)) (Bl : Int) (Bn : Int) (AZ : List (S82)) : Option (Bool):=if AB.toList = Bh.toList then (if AJ.toList = Bj.toList then (if AL = Bl then (if AO = Bn then ((aU.f k AA Bg).bind fun t124=>(if t124 = true then ((dH.f k Az Bf).bind fun BK=>(if BK = true then ((dM.f k Au AZ).bind fun BJ=>(some BJ)) else (some false))) else (some false))) else (some false)) else (some false)) else (some false)) else (some false)
theorem dY.mono : ∀ a0 a1 a2 a3 a4 a5 a6 a7 a8 a9 IV IW a12 IX k,LeO (dY.f k a0 a1 a2 a3 a4 a5 a6 a7 a8 a9 IV IW a12 IX) (dY.f (k + 1) a0 a1 a2 a3 a4 a5 a6 a7 a8 a9 IV IW a12 IX):=by
 intro a0 a1 a2 a3 a4 a5 a6 a7 a8 a9 IV IW a12 IX k
 unfold dY.f
 repeat' first
   | (with_reducible exact aU.mono _ _ _)
   | (with_reducible exact dM.mono _ _ _)
   | (with_reducible exact dH.mono _ _ _)
   | (with_reducible exact LeO.refl _)
   | (with_reducible exact LeO.none _)
   | (with_reducible refine LeO.ite ?_ ?_)
   | (with_reducible refine LeO.bind ?_ (fun _=>?_))
   | exact aU.mono _ _ _
   | exact dM.mono _ _ _
   | exact dH.mono _ _ _
   | exact LeO.none _
   | refine LeO.ite ?_ ?_
   | refine LeO.bind ?_ (fun _=>?_)
set_option maxHeartbeats 8000000 in
set_option maxRecDepth 100000 in
theorem dY.calls (k : Nat) (AB : ByteArray) (AJ : ByteArray) (AP : Option Addr) (AQ : Nat) (AA : List ByteArray) (AU : Option Addr) (AV : Nat) (Az : List (S46)) (AL : Int) (AO : Int) (AX : Option Addr) (AY : Nat) (Au : List (S82)) (Bh : ByteArray) (Bj : ByteArray) (Bz : Option Addr) (BD : Nat) (Bg : List ByteArray) (BF : Option Addr) (BG : Nat) (Bf : List (S46)) (Bl : Int) (Bn : Int) (BH : Option Addr) (BI : Nat) (AZ : List (S82)) (r : Bool) (w : World) (CQ : Kd.C Kd.string w AP AA.length AA) (CS : AA.length ≤ AQ) (CU : Kd.C k46 w AU Az.length Az) (CV : Az.length ≤ AV) (CW : Kd.C k82 w AX Au.length Au) (CX : Au.length ≤ AY) (CY : Kd.C Kd.string w Bz Bg.length Bg) (CZ : Bg.length ≤ BD) (C8 : Kd.C k46 w BF Bf.length Bf) (C9 : Bf.length ≤ BG) (Da : Kd.C k82 w BH AZ.length AZ) (Db : AZ.length ≤ BI) (h : dY.f k AB AJ AA Az AL AO Au Bh Bj Bg Bf Bl Bn AZ = some r) :
  Calls Tryd.prog 52 #[.agg #[.string AB,.string AJ,.slice AP AA.length AQ,.slice AU Az.length AV,.int .i64 AL,.int .i64 AO,.slice AX Au.length AY],.agg #[.string Bh,.string Bj,.slice Bz Bg.length BD,.slice BF Bf.length BG,.int .i64 Bl,.int .i64 Bn,.slice BH AZ.length BI]] w fun e w'=>e = .returned (.bool r) ∧ Below w.heap.size w w':=by
 have Jm:=Tryd.underlying43
 have Ct:=Aside0.mk CQ
 have Cu:=Aside0.mk CS
 clear CQ CS
 have Dc:=Aside0.mk CU
 have Df:=Aside0.mk CV
 clear CU CV
 have Dt:=Aside0.mk CW
 have Du:=Aside0.mk CX
 clear CW CX
 have Cv:=Aside0.mk CY
 have Cw:=Aside0.mk CZ
 clear CY CZ
 have Dh:=Aside0.mk C8
 have Di:=Aside0.mk C9
 clear C8 C9
 have Dv:=Aside0.mk Da
 have Dw:=Aside0.mk Db
 clear Da Db
 have HB:=Aside0.mk (Below.refl w.heap.size w)
 have H : (if AB.toList = Bh.toList then (if AJ.toList = Bj.toList then (if AL = Bl then (if AO = Bn then ((aU.f k AA Bg).bind fun t124=>(if t124 = true then ((dH.f k Az Bf).bind fun BK=>(if BK = true then ((dM.f k Au AZ).bind fun BJ=>(some BJ)) else (some false))) else (some false))) else (some false)) else (some false)) else (some false)) else (some false)) = some r:=h
 clear h
 by_cases c3 : AB.toList = Bh.toList
 ·rw [if_pos c3] at H
  have c3b0 : (AB.toList == Bh.toList) = true:=beq_iff_eq.mpr c3
  have c3b1 : (AB.toList != Bh.toList) = false:=bne_eq_false_iff_eq.mpr c3
  clear c3
  by_cases c4 : AJ.toList = Bj.toList
  ·rw [if_pos c4] at H
   have c4b0 : (AJ.toList == Bj.toList) = true:=beq_iff_eq.mpr c4
   have c4b1 : (AJ.toList != Bj.toList) = false:=bne_eq_false_iff_eq.mpr c4
   clear c4
   by_cases c5 : AL = Bl
   ·rw [if_pos c5] at H
    have c5b0 : (AL == Bl) = true:=beq_iff_eq.mpr c5
    have c5b1 : (AL != Bl) = false:=bne_eq_false_iff_eq.mpr c5
    clear c5
    by_cases c6 : AO = Bn
    ·rw [if_pos c6] at H
     have c6b0 : (AO == Bn) = true:=beq_iff_eq.mpr c6
     have c6b1 : (AO != Bn) = false:=bne_eq_false_iff_eq.mpr c6
     clear c6
     replace H:=Option.bind_eq_some_iff.mp H
     obtain ⟨t124,IY,H⟩:=H
     replace H : (if t124 = true then ((dH.f k Az Bf).bind fun BK=>(if BK = true then ((dM.f k Au AZ).bind fun BJ=>(some BJ)) else (some false))) else (some false)) = some r:=H
     have A7:=Aside0.mk IY
     clear IY
     by_cases c8 : t124 = true
     ·subst c8
      have H1 : ((dH.f k Az Bf).bind fun BK=>(if BK = true then ((dM.f k Au AZ).bind fun BJ=>(some BJ)) else (some false))) = some r:=by rw [if_pos rfl] at H;exact H
      clear H
      have H:=H1
      clear H1
      replace H:=Option.bind_eq_some_iff.mp H
      obtain ⟨BK,IZ,H⟩:=H
      replace H : (if BK = true then ((dM.f k Au AZ).bind fun BJ=>(some BJ)) else (some false)) = some r:=H
      have A9:=Aside0.mk IZ
      clear IZ
      by_cases c10 : BK = true
      ·subst c10
       have H1 : ((dM.f k Au AZ).bind fun BJ=>(some BJ)) = some r:=by rw [if_pos rfl] at H;exact H
       clear H
       have H:=H1
       clear H1
       replace H:=Option.bind_eq_some_iff.mp H
       obtain ⟨BJ,Dx,H⟩:=H
       replace H : (some BJ) = some r:=H
       have Jo:=Aside0.mk Dx
       clear Dx
       obtain rfl:=Option.some.inj H
       go_enter Tryd.func52,Tryd.ntmps52
       go_wp2_with (first|((with_reducible refine dA (N:=2) rfl ?_);refine dG ?hg (N:=2) ?hd (cs:=#[.string AB,.string AJ,.slice AP AA.length AQ,.slice AU Az.length AV,.int .i64 AL,.int .i64 AO,.slice AX Au.length AY]) (t:=43) ?hr ?_;(case hd=>rfl);(case hg=>rfl);(case hr=>first|(go_simp;done)|(go_simp;rfl));intro Am hg Jp hbox hb;have Bo:=Aside0.mk (aJ hb_ hb);have Bp:=Aside0.mk (hbox);have Bq:=Aside0.mk ((by rw [hg];exact (aY hb_) : w.heap.size ≤ Am));have Br:=Aside0.mk ((by rw [hg];exact (aY hb_) : w.heap.size ≤ Am));clear HB;have HB:=Bo;have Al:=Bp;have BL:=Bq;have BN:=Br;clear Bo Bp Bq Br;clear hb hbox hg)|((with_reducible refine dA (N:=3) rfl ?_);refine dG ?hg (N:=3) ?hd (cs:=#[.string Bh,.string Bj,.slice Bz Bg.length BD,.slice BF Bf.length BG,.int .i64 Bl,.int .i64 Bn,.slice BH AZ.length BI]) (t:=43) ?hr ?_;(case hd=>rfl);(case hg=>rfl);(case hr=>first|(go_simp;done)|(go_simp;rfl));intro Ap hg Ci hbox hb;have Bo:=Aside0.mk (aM (g:=Am) (o:=.cells #[.string AB,.string AJ,.slice AP AA.length AQ,.slice AU Az.length AV,.int .i64 AL,.int .i64 AO,.slice AX Au.length AY] 43 (0,0)) (bk_ Al.out) hb);have Bp:=Aside0.mk (aJ hb_ hb);have Bq:=Aside0.mk (hbox);have Br:=Aside0.mk ((by rw [hg];exact (aY hb_) : w.heap.size ≤ Ap));have BO:=Aside0.mk ((by rw [hg];exact (aY hb_) : w.heap.size ≤ Ap));have BP:=Aside0.mk ((by rw [hg];exact Nat.ne_of_lt (dn (g:=Am) (o:=.cells #[.string AB,.string AJ,.slice AP AA.length AQ,.slice AU Az.length AV,.int .i64 AL,.int .i64 AO,.slice AX Au.length AY] 43 (0,0)) (bk_ Al.out)) : Am ≠ Ap));have BQ:=Aside0.mk ((by rw [hg];exact Nat.ne_of_gt (dn (g:=Am) (o:=.cells #[.string AB,.string AJ,.slice AP AA.length AQ,.slice AU Az.length AV,.int .i64 AL,.int .i64 AO,.slice AX Au.length AY] 43 (0,0)) (bk_ Al.out)) : Ap ≠ Am));clear Al;clear HB;have Al:=Bo;have HB:=Bp;have Ao:=Bq;have BR:=Br;have BS:=BO;have Aw:=BP;have Ay:=BQ;clear Bo Bp Bq Br BO BP BQ;clear hb hbox hg;have I4:=Aw.out;have I5:=Ay.out;have Dy : Ci.cell? ⟨Am,0,none⟩ = some (.string AB):=(ah Al.out 0).trans rfl;have Dz : Ci.cell? ⟨Am,1,none⟩ = some (.string AJ):=(ah Al.out 1).trans rfl;have DC : Ci.cell? ⟨Am,2,none⟩ = some (.slice AP AA.length AQ):=(ah Al.out 2).trans rfl;have DF : Ci.cell? ⟨Am,3,none⟩ = some (.slice AU Az.length AV):=(ah Al.out 3).trans rfl;have DI : Ci.cell? ⟨Am,4,none⟩ = some (.int .i64 AL):=(ah Al.out 4).trans rfl;have DJ : Ci.cell? ⟨Am,5,none⟩ = some (.int .i64 AO):=(ah Al.out 5).trans rfl;have DK : Ci.cell? ⟨Am,6,none⟩ = some (.slice AX Au.length AY):=(ah Al.out 6).trans rfl;have DL:=au Al.out 0;have DN:=au Al.out 1;have DR:=au Al.out 2;have DT:=au Al.out 3;have DU:=au Al.out 4;have DV:=au Al.out 5;have DW:=au Al.out 6;have DX : Ci.cell? ⟨Ap,0,none⟩ = some (.string Bh):=(ah Ao.out 0).trans rfl;have DY : Ci.cell? ⟨Ap,1,none⟩ = some (.string Bj):=(ah Ao.out 1).trans rfl;have DZ : Ci.cell? ⟨Ap,2,none⟩ = some (.slice Bz Bg.length BD):=(ah Ao.out 2).trans rfl;have D5 : Ci.cell? ⟨Ap,3,none⟩ = some (.slice BF Bf.length BG):=(ah Ao.out 3).trans rfl;have D6 : Ci.cell? ⟨Ap,4,none⟩ = some (.int .i64 Bl):=(ah Ao.out 4).trans rfl;have D7 : Ci.cell? ⟨Ap,5,none⟩ = some (.int .i64 Bn):=(ah Ao.out 5).trans rfl;have D8 : Ci.cell? ⟨Ap,6,none⟩ = some (.slice BH AZ.length BI):=(ah Ao.out 6).trans rfl;have D9:=au Ao.out 0;have Ea:=au Ao.out 1;have Eb:=au Ao.out 2;have Ec:=au Ao.out 3;have Ed:=au Ao.out 4;have Ee:=au Ao.out 5;have Ef:=au Ao.out 6)|(go_at_call 75;(with_reducible refine (aU.calls k _ _ AA _ _ Bg true _ ?Bt ?Bu ?Bv ?Bw A7.out).mono ?_);(case Bt=>repeat (first|exact (Kd.bN Ct.out HB.out)|(with_reducible refine Kd.bC ?_ _)|(with_reducible refine Kd.bO ?_ _)|(with_reducible refine Kd.bW ?_)));(case Bu=>exact Cu.out);(case Bv=>repeat (first|exact (Kd.bN Cv.out HB.out)|(with_reducible refine Kd.bC ?_ _)|(with_reducible refine Kd.bO ?_ _)|(with_reducible refine Kd.bW ?_)));(case Bw=>exact Cw.out);rintro e w' ⟨rfl,⟨nd,rfl⟩⟩)|(go_at_call 76;(with_reducible refine (dH.calls k _ _ Az _ _ Bf true _ ?Bt ?Bu ?Bv ?Bw A9.out).mono ?_);(case Bt=>repeat (first|exact (Kd.bN Dc.out hb_)|(with_reducible refine Kd.bC ?_ _)|(with_reducible refine Kd.bO ?_ _)|(with_reducible refine Kd.bW ?_)));(case Bu=>exact Df.out);(case Bv=>repeat (first|exact (Kd.bN Dh.out hb_)|(with_reducible refine Kd.bC ?_ _)|(with_reducible refine Kd.bO ?_ _)|(with_reducible refine Kd.bW ?_)));(case Bw=>exact Di.out);rintro e w' ⟨rfl,⟨nd,rfl⟩⟩)|(go_at_call 77;(with_reducible refine (dM.calls k _ _ Au _ _ AZ BJ _ ?Bt ?Bu ?Bv ?Bw Jo.out).mono ?_);(case Bt=>repeat (first|exact (Kd.bN Dt.out hb_)|(with_reducible refine Kd.bC ?_ _)|(with_reducible refine Kd.bO ?_ _)|(with_reducible refine Kd.bW ?_)));(case Bu=>exact Du.out);(case Bv=>repeat (first|exact (Kd.bN Dv.out hb_)|(with_reducible refine Kd.bC ?_ _)|(with_reducible refine Kd.bO ?_ _)|(with_reducible refine Kd.bW ?_)));(case Bw=>exact Dw.out);rintro e w' ⟨rfl,⟨nd,rfl⟩⟩))
       go_ret
       exact ⟨by first|rfl|(simp [aV,aW] <;> rfl)|(simp [*,aV,aW] <;> rfl),hb_⟩
      ·replace c10:=Bool.eq_false_iff.mpr c10
       subst c10
       have H1 : (some false) = some r:=by rw [if_neg (show ¬ (false = true) by decide)] at H;exact H
       clear H
       have H:=H1
       clear H1
       obtain rfl:=Option.some.inj H
       go_enter Tryd.func52,Tryd.ntmps52
       go_wp2_with (first|((with_reducible refine dA (N:=2) rfl ?_);refine dG ?hg (N:=2) ?hd (cs:=#[.string AB,.string AJ,.slice AP AA.length AQ,.slice AU Az.length AV,.int .i64 AL,.int .i64 AO,.slice AX Au.length AY]) (t:=43) ?hr ?_;(case hd=>rfl);(case hg=>rfl);(case hr=>first|(go_simp;done)|(go_simp;rfl));intro Am hg Jq hbox hb;have Bo:=Aside0.mk (aJ hb_ hb);have Bp:=Aside0.mk (hbox);have Bq:=Aside0.mk ((by rw [hg];exact (aY hb_) : w.heap.size ≤ Am));have Br:=Aside0.mk ((by rw [hg];exact (aY hb_) : w.heap.size ≤ Am));clear HB;have HB:=Bo;have Al:=Bp;have BL:=Bq;have BN:=Br;clear Bo Bp Bq Br;clear hb hbox hg)|((with_reducible refine dA (N:=3) rfl ?_);refine dG ?hg (N:=3) ?hd (cs:=#[.string Bh,.string Bj,.slice Bz Bg.length BD,.slice BF Bf.length BG,.int .i64 Bl,.int .i64 Bn,.slice BH AZ.length BI]) (t:=43) ?hr ?_;(case hd=>rfl);(case hg=>rfl);(case hr=>first|(go_simp;done)|(go_simp;rfl));intro Ap hg Cj hbox hb;have Bo:=Aside0.mk (aM (g:=Am) (o:=.cells #[.string AB,.string AJ,.slice AP AA.length AQ,.slice AU Az.length AV,.int .i64 AL,.int .i64 AO,.slice AX Au.length AY] 43 (0,0)) (bk_ Al.out) hb);have Bp:=Aside0.mk (aJ hb_ hb);have Bq:=Aside0.mk (hbox);have Br:=Aside0.mk ((by rw [hg];exact (aY hb_) : w.heap.size ≤ Ap));have BO:=Aside0.mk ((by rw [hg];exact (aY hb_) : w.heap.size ≤ Ap));have BP:=Aside0.mk ((by rw [hg];exact Nat.ne_of_lt (dn (g:=Am) (o:=.cells #[.string AB,.string AJ,.slice AP AA.length AQ,.slice AU Az.length AV,.int .i64 AL,.int .i64 AO,.slice AX Au.length AY] 43 (0,0)) (bk_ Al.out)) : Am ≠ Ap));have BQ:=Aside0.mk ((by rw [hg];exact Nat.ne_of_gt (dn (g:=Am) (o:=.cells #[.string AB,.string AJ,.slice AP AA.length AQ,.slice AU Az.length AV,.int .i64 AL,.int .i64 AO,.slice AX Au.length AY] 43 (0,0)) (bk_ Al.out)) : Ap ≠ Am));clear Al;clear HB;have Al:=Bo;have HB:=Bp;have Ao:=Bq;have BR:=Br;have BS:=BO;have Aw:=BP;have Ay:=BQ;clear Bo Bp Bq Br BO BP BQ;clear hb hbox hg;have I6:=Aw.out;have I7:=Ay.out;have Eh : Cj.cell? ⟨Am,0,none⟩ = some (.string AB):=(ah Al.out 0).trans rfl;have Ei : Cj.cell? ⟨Am,1,none⟩ = some (.string AJ):=(ah Al.out 1).trans rfl;have Ej : Cj.cell? ⟨Am,2,none⟩ = some (.slice AP AA.length AQ):=(ah Al.out 2).trans rfl;have El : Cj.cell? ⟨Am,3,none⟩ = some (.slice AU Az.length AV):=(ah Al.out 3).trans rfl;have Em : Cj.cell? ⟨Am,4,none⟩ = some (.int .i64 AL):=(ah Al.out 4).trans rfl;have En : Cj.cell? ⟨Am,5,none⟩ = some (.int .i64 AO):=(ah Al.out 5).trans rfl;have Eo : Cj.cell? ⟨Am,6,none⟩ = some (.slice AX Au.length AY):=(ah Al.out 6).trans rfl;have Ep:=au Al.out 0;have Er:=au Al.out 1;have Es:=au Al.out 2;have Et:=au Al.out 3;have Eu:=au Al.out 4;have Ew:=au Al.out 5;have Ey:=au Al.out 6;have Ez : Cj.cell? ⟨Ap,0,none⟩ = some (.string Bh):=(ah Ao.out 0).trans rfl;have EA : Cj.cell? ⟨Ap,1,none⟩ = some (.string Bj):=(ah Ao.out 1).trans rfl;have EB : Cj.cell? ⟨Ap,2,none⟩ = some (.slice Bz Bg.length BD):=(ah Ao.out 2).trans rfl;have EC : Cj.cell? ⟨Ap,3,none⟩ = some (.slice BF Bf.length BG):=(ah Ao.out 3).trans rfl;have ED : Cj.cell? ⟨Ap,4,none⟩ = some (.int .i64 Bl):=(ah Ao.out 4).trans rfl;have EF : Cj.cell? ⟨Ap,5,none⟩ = some (.int .i64 Bn):=(ah Ao.out 5).trans rfl;have EG : Cj.cell? ⟨Ap,6,none⟩ = some (.slice BH AZ.length BI):=(ah Ao.out 6).trans rfl;have EH:=au Ao.out 0;have EI:=au Ao.out 1;have EJ:=au Ao.out 2;have EK:=au Ao.out 3;have EL:=au Ao.out 4;have EM:=au Ao.out 5;have EN:=au Ao.out 6)|(go_at_call 75;(with_reducible refine (aU.calls k _ _ AA _ _ Bg true _ ?Bt ?Bu ?Bv ?Bw A7.out).mono ?_);(case Bt=>repeat (first|exact (Kd.bN Ct.out HB.out)|(with_reducible refine Kd.bC ?_ _)|(with_reducible refine Kd.bO ?_ _)|(with_reducible refine Kd.bW ?_)));(case Bu=>exact Cu.out);(case Bv=>repeat (first|exact (Kd.bN Cv.out HB.out)|(with_reducible refine Kd.bC ?_ _)|(with_reducible refine Kd.bO ?_ _)|(with_reducible refine Kd.bW ?_)));(case Bw=>exact Cw.out);rintro e w' ⟨rfl,⟨nd,rfl⟩⟩)|(go_at_call 76;(with_reducible refine (dH.calls k _ _ Az _ _ Bf false _ ?Bt ?Bu ?Bv ?Bw A9.out).mono ?_);(case Bt=>repeat (first|exact (Kd.bN Dc.out hb_)|(with_reducible refine Kd.bC ?_ _)|(with_reducible refine Kd.bO ?_ _)|(with_reducible refine Kd.bW ?_)));(case Bu=>exact Df.out);(case Bv=>repeat (first|exact (Kd.bN Dh.out hb_)|(with_reducible refine Kd.bC ?_ _)|(with_reducible refine Kd.bO ?_ _)|(with_reducible refine Kd.bW ?_)));(case Bw=>exact Di.out);rintro e w' ⟨rfl,⟨nd,rfl⟩⟩))
       go_ret
       exact ⟨by first|rfl|(simp [aV,aW] <;> rfl)|(simp [*,aV,aW] <;> rfl),hb_⟩
     ·replace c8:=Bool.eq_false_iff.mpr c8
      subst c8
      have H1 : (some false) = some r:=by rw [if_neg (show ¬ (false = true) by decide)] at H;exact H
      clear H
      have H:=H1
      clear H1
      obtain rfl:=Option.some.inj H
      go_enter Tryd.func52,Tryd.ntmps52
      go_wp2_with (first|((with_reducible refine dA (N:=2) rfl ?_);refine dG ?hg (N:=2) ?hd (cs:=#[.string AB,.string AJ,.slice AP AA.length AQ,.slice AU Az.length AV,.int .i64 AL,.int .i64 AO,.slice AX Au.length AY]) (t:=43) ?hr ?_;(case hd=>rfl);(case hg=>rfl);(case hr=>first|(go_simp;done)|(go_simp;rfl));intro Am hg Jr hbox hb;have Bo:=Aside0.mk (aJ hb_ hb);have Bp:=Aside0.mk (hbox);have Bq:=Aside0.mk ((by rw [hg];exact (aY hb_) : w.heap.size ≤ Am));have Br:=Aside0.mk ((by rw [hg];exact (aY hb_) : w.heap.size ≤ Am));clear HB;have HB:=Bo;have Al:=Bp;have BL:=Bq;have BN:=Br;clear Bo Bp Bq Br;clear hb hbox hg)|((with_reducible refine dA (N:=3) rfl ?_);refine dG ?hg (N:=3) ?hd (cs:=#[.string Bh,.string Bj,.slice Bz Bg.length BD,.slice BF Bf.length BG,.int .i64 Bl,.int .i64 Bn,.slice BH AZ.length BI]) (t:=43) ?hr ?_;(case hd=>rfl);(case hg=>rfl);(case hr=>first|(go_simp;done)|(go_simp;rfl));intro Ap hg Ck hbox hb;have Bo:=Aside0.mk (aM (g:=Am) (o:=.cells #[.string AB,.string AJ,.slice AP AA.length AQ,.slice AU Az.length AV,.int .i64 AL,.int .i64 AO,.slice AX Au.length AY] 43 (0,0)) (bk_ Al.out) hb);have Bp:=Aside0.mk (aJ hb_ hb);have Bq:=Aside0.mk (hbox);have Br:=Aside0.mk ((by rw [hg];exact (aY hb_) : w.heap.size ≤ Ap));have BO:=Aside0.mk ((by rw [hg];exact (aY hb_) : w.heap.size ≤ Ap));have BP:=Aside0.mk ((by rw [hg];exact Nat.ne_of_lt (dn (g:=Am) (o:=.cells #[.string AB,.string AJ,.slice AP AA.length AQ,.slice AU Az.length AV,.int .i64 AL,.int .i64 AO,.slice AX Au.length AY] 43 (0,0)) (bk_ Al.out)) : Am ≠ Ap));have BQ:=Aside0.mk ((by rw [hg];exact Nat.ne_of_gt (dn (g:=Am) (o:=.cells #[.string AB,.string AJ,.slice AP AA.length AQ,.slice AU Az.length AV,.int .i64 AL,.int .i64 AO,.slice AX Au.length AY] 43 (0,0)) (bk_ Al.out)) : Ap ≠ Am));clear Al;clear HB;have Al:=Bo;have HB:=Bp;have Ao:=Bq;have BR:=Br;have BS:=BO;have Aw:=BP;have Ay:=BQ;clear Bo Bp Bq Br BO BP BQ;clear hb hbox hg;have I8:=Aw.out;have I9:=Ay.out;have EO : Ck.cell? ⟨Am,0,none⟩ = some (.string AB):=(ah Al.out 0).trans rfl;have EP : Ck.cell? ⟨Am,1,none⟩ = some (.string AJ):=(ah Al.out 1).trans rfl;have ER : Ck.cell? ⟨Am,2,none⟩ = some (.slice AP AA.length AQ):=(ah Al.out 2).trans rfl;have ES : Ck.cell? ⟨Am,3,none⟩ = some (.slice AU Az.length AV):=(ah Al.out 3).trans rfl;have ET : Ck.cell? ⟨Am,4,none⟩ = some (.int .i64 AL):=(ah Al.out 4).trans rfl;have EU : Ck.cell? ⟨Am,5,none⟩ = some (.int .i64 AO):=(ah Al.out 5).trans rfl;have EW : Ck.cell? ⟨Am,6,none⟩ = some (.slice AX Au.length AY):=(ah Al.out 6).trans rfl;have EX:=au Al.out 0;have EY:=au Al.out 1;have EZ:=au Al.out 2;have E5:=au Al.out 3;have E8:=au Al.out 4;have E9:=au Al.out 5;have Fa:=au Al.out 6;have Fb : Ck.cell? ⟨Ap,0,none⟩ = some (.string Bh):=(ah Ao.out 0).trans rfl;have Fe : Ck.cell? ⟨Ap,1,none⟩ = some (.string Bj):=(ah Ao.out 1).trans rfl;have Fg : Ck.cell? ⟨Ap,2,none⟩ = some (.slice Bz Bg.length BD):=(ah Ao.out 2).trans rfl;have Fh : Ck.cell? ⟨Ap,3,none⟩ = some (.slice BF Bf.length BG):=(ah Ao.out 3).trans rfl;have Fj : Ck.cell? ⟨Ap,4,none⟩ = some (.int .i64 Bl):=(ah Ao.out 4).trans rfl;have Fp : Ck.cell? ⟨Ap,5,none⟩ = some (.int .i64 Bn):=(ah Ao.out 5).trans rfl;have Fq : Ck.cell? ⟨Ap,6,none⟩ = some (.slice BH AZ.length BI):=(ah Ao.out 6).trans rfl;have Fu:=au Ao.out 0;have Fv:=au Ao.out 1;have Fw:=au Ao.out 2;have Fx:=au Ao.out 3;have Fy:=au Ao.out 4;have Fz:=au Ao.out 5;have FB:=au Ao.out 6)|(go_at_call 75;(with_reducible refine (aU.calls k _ _ AA _ _ Bg false _ ?Bt ?Bu ?Bv ?Bw A7.out).mono ?_);(case Bt=>repeat (first|exact (Kd.bN Ct.out HB.out)|(with_reducible refine Kd.bC ?_ _)|(with_reducible refine Kd.bO ?_ _)|(with_reducible refine Kd.bW ?_)));(case Bu=>exact Cu.out);(case Bv=>repeat (first|exact (Kd.bN Cv.out HB.out)|(with_reducible refine Kd.bC ?_ _)|(with_reducible refine Kd.bO ?_ _)|(with_reducible refine Kd.bW ?_)));(case Bw=>exact Cw.out);rintro e w' ⟨rfl,⟨nd,rfl⟩⟩))
      go_ret
      exact ⟨by first|rfl|(simp [aV,aW] <;> rfl)|(simp [*,aV,aW] <;> rfl),hb_⟩
    ·rw [if_neg c6] at H
     have c6b0 : (AO == Bn) = false:=beq_eq_false_iff_ne.mpr c6
     have c6b1 : (AO != Bn) = true:=bne_iff_ne.mpr c6
     obtain rfl:=Option.some.inj H
     go_enter Tryd.func52,Tryd.ntmps52
     go_wp2_with (first|((with_reducible refine dA (N:=2) rfl ?_);refine dG ?hg (N:=2) ?hd (cs:=#[.string AB,.string AJ,.slice AP AA.length AQ,.slice AU Az.length AV,.int .i64 AL,.int .i64 AO,.slice AX Au.length AY]) (t:=43) ?hr ?_;(case hd=>rfl);(case hg=>rfl);(case hr=>first|(go_simp;done)|(go_simp;rfl));intro Am hg Js hbox hb;have Bo:=Aside0.mk (aJ hb_ hb);have Bp:=Aside0.mk (hbox);have Bq:=Aside0.mk ((by rw [hg];exact (aY hb_) : w.heap.size ≤ Am));have Br:=Aside0.mk ((by rw [hg];exact (aY hb_) : w.heap.size ≤ Am));clear HB;have HB:=Bo;have Al:=Bp;have BL:=Bq;have BN:=Br;clear Bo Bp Bq Br;clear hb hbox hg)|((with_reducible refine dA (N:=3) rfl ?_);refine dG ?hg (N:=3) ?hd (cs:=#[.string Bh,.string Bj,.slice Bz Bg.length BD,.slice BF Bf.length BG,.int .i64 Bl,.int .i64 Bn,.slice BH AZ.length BI]) (t:=43) ?hr ?_;(case hd=>rfl);(case hg=>rfl);(case hr=>first|(go_simp;done)|(go_simp;rfl));intro Ap hg Cm hbox hb;have Bo:=Aside0.mk (aM (g:=Am) (o:=.cells #[.string AB,.string AJ,.slice AP AA.length AQ,.slice AU Az.length AV,.int .i64 AL,.int .i64 AO,.slice AX Au.length AY] 43 (0,0)) (bk_ Al.out) hb);have Bp:=Aside0.mk (aJ hb_ hb);have Bq:=Aside0.mk (hbox);have Br:=Aside0.mk ((by rw [hg];exact (aY hb_) : w.heap.size ≤ Ap));have BO:=Aside0.mk ((by rw [hg];exact (aY hb_) : w.heap.size ≤ Ap));have BP:=Aside0.mk ((by rw [hg];exact Nat.ne_of_lt (dn (g:=Am) (o:=.cells #[.string AB,.string AJ,.slice AP AA.length AQ,.slice AU Az.length AV,.int .i64 AL,.int .i64 AO,.slice AX Au.length AY] 43 (0,0)) (bk_ Al.out)) : Am ≠ Ap));have BQ:=Aside0.mk ((by rw [hg];exact Nat.ne_of_gt (dn (g:=Am) (o:=.cells #[.string AB,.string AJ,.slice AP AA.length AQ,.slice AU Az.length AV,.int .i64 AL,.int .i64 AO,.slice AX Au.length AY] 43 (0,0)) (bk_ Al.out)) : Ap ≠ Am));clear Al;clear HB;have Al:=Bo;have HB:=Bp;have Ao:=Bq;have BR:=Br;have BS:=BO;have Aw:=BP;have Ay:=BQ;clear Bo Bp Bq Br BO BP BQ;clear hb hbox hg;have Ja:=Aw.out;have Jb:=Ay.out;have FC : Cm.cell? ⟨Am,0,none⟩ = some (.string AB):=(ah Al.out 0).trans rfl;have FD : Cm.cell? ⟨Am,1,none⟩ = some (.string AJ):=(ah Al.out 1).trans rfl;have FE : Cm.cell? ⟨Am,2,none⟩ = some (.slice AP AA.length AQ):=(ah Al.out 2).trans rfl;have FH : Cm.cell? ⟨Am,3,none⟩ = some (.slice AU Az.length AV):=(ah Al.out 3).trans rfl;have FI : Cm.cell? ⟨Am,4,none⟩ = some (.int .i64 AL):=(ah Al.out 4).trans rfl;have FJ : Cm.cell? ⟨Am,5,none⟩ = some (.int .i64 AO):=(ah Al.out 5).trans rfl;have FL : Cm.cell? ⟨Am,6,none⟩ = some (.slice AX Au.length AY):=(ah Al.out 6).trans rfl;have FM:=au Al.out 0;have FN:=au Al.out 1;have FP:=au Al.out 2;have FQ:=au Al.out 3;have FR:=au Al.out 4;have FT:=au Al.out 5;have FU:=au Al.out 6;have FV : Cm.cell? ⟨Ap,0,none⟩ = some (.string Bh):=(ah Ao.out 0).trans rfl;have FW : Cm.cell? ⟨Ap,1,none⟩ = some (.string Bj):=(ah Ao.out 1).trans rfl;have FX : Cm.cell? ⟨Ap,2,none⟩ = some (.slice Bz Bg.length BD):=(ah Ao.out 2).trans rfl;have FY : Cm.cell? ⟨Ap,3,none⟩ = some (.slice BF Bf.length BG):=(ah Ao.out 3).trans rfl;have FZ : Cm.cell? ⟨Ap,4,none⟩ = some (.int .i64 Bl):=(ah Ao.out 4).trans rfl;have F3 : Cm.cell? ⟨Ap,5,none⟩ = some (.int .i64 Bn):=(ah Ao.out 5).trans rfl;have F4 : Cm.cell? ⟨Ap,6,none⟩ = some (.slice BH AZ.length BI):=(ah Ao.out 6).trans rfl;have F5:=au Ao.out 0;have F6:=au Ao.out 1;have F7:=au Ao.out 2;have F8:=au Ao.out 3;have F9:=au Ao.out 4;have Ga:=au Ao.out 5;have Gb:=au Ao.out 6))
     go_ret
     exact ⟨by first|rfl|(simp [aV,aW] <;> rfl)|(simp [*,aV,aW] <;> rfl),hb_⟩
   ·rw [if_neg c5] at H
    have c5b0 : (AL == Bl) = false:=beq_eq_false_iff_ne.mpr c5
    have c5b1 : (AL != Bl) = true:=bne_iff_ne.mpr c5
    obtain rfl:=Option.some.inj H
    go_enter Tryd.func52,Tryd.ntmps52
    go_wp2_with (first|((with_reducible refine dA (N:=2) rfl ?_);refine dG ?hg (N:=2) ?hd (cs:=#[.string AB,.string AJ,.slice AP AA.length AQ,.slice AU Az.length AV,.int .i64 AL,.int .i64 AO,.slice AX Au.length AY]) (t:=43) ?hr ?_;(case hd=>rfl);(case hg=>rfl);(case hr=>first|(go_simp;done)|(go_simp;rfl));intro Am hg w32 hbox hb;have Bo:=Aside0.mk (aJ hb_ hb);have Bp:=Aside0.mk (hbox);have Bq:=Aside0.mk ((by rw [hg];exact (aY hb_) : w.heap.size ≤ Am));have Br:=Aside0.mk ((by rw [hg];exact (aY hb_) : w.heap.size ≤ Am));clear HB;have HB:=Bo;have Al:=Bp;have BL:=Bq;have BN:=Br;clear Bo Bp Bq Br;clear hb hbox hg)|((with_reducible refine dA (N:=3) rfl ?_);refine dG ?hg (N:=3) ?hd (cs:=#[.string Bh,.string Bj,.slice Bz Bg.length BD,.slice BF Bf.length BG,.int .i64 Bl,.int .i64 Bn,.slice BH AZ.length BI]) (t:=43) ?hr ?_;(case hd=>rfl);(case hg=>rfl);(case hr=>first|(go_simp;done)|(go_simp;rfl));intro Ap hg Cn hbox hb;have Bo:=Aside0.mk (aM (g:=Am) (o:=.cells #[.string AB,.string AJ,.slice AP AA.length AQ,.slice AU Az.length AV,.int .i64 AL,.int .i64 AO,.slice AX Au.length AY] 43 (0,0)) (bk_ Al.out) hb);have Bp:=Aside0.mk (aJ hb_ hb);have Bq:=Aside0.mk (hbox);have Br:=Aside0.mk ((by rw [hg];exact (aY hb_) : w.heap.size ≤ Ap));have BO:=Aside0.mk ((by rw [hg];exact (aY hb_) : w.heap.size ≤ Ap));have BP:=Aside0.mk ((by rw [hg];exact Nat.ne_of_lt (dn (g:=Am) (o:=.cells #[.string AB,.string AJ,.slice AP AA.length AQ,.slice AU Az.length AV,.int .i64 AL,.int .i64 AO,.slice AX Au.length AY] 43 (0,0)) (bk_ Al.out)) : Am ≠ Ap));have BQ:=Aside0.mk ((by rw [hg];exact Nat.ne_of_gt (dn (g:=Am) (o:=.cells #[.string AB,.string AJ,.slice AP AA.length AQ,.slice AU Az.length AV,.int .i64 AL,.int .i64 AO,.slice AX Au.length AY] 43 (0,0)) (bk_ Al.out)) : Ap ≠ Am));clear Al;clear HB;have Al:=Bo;have HB:=Bp;have Ao:=Bq;have BR:=Br;have BS:=BO;have Aw:=BP;have Ay:=BQ;clear Bo Bp Bq Br BO BP BQ;clear hb hbox hg;have Jc:=Aw.out;have Jd:=Ay.out;have Gc : Cn.cell? ⟨Am,0,none⟩ = some (.string AB):=(ah Al.out 0).trans rfl;have Gd : Cn.cell? ⟨Am,1,none⟩ = some (.string AJ):=(ah Al.out 1).trans rfl;have Gf : Cn.cell? ⟨Am,2,none⟩ = some (.slice AP AA.length AQ):=(ah Al.out 2).trans rfl;have Gg : Cn.cell? ⟨Am,3,none⟩ = some (.slice AU Az.length AV):=(ah Al.out 3).trans rfl;have Gh : Cn.cell? ⟨Am,4,none⟩ = some (.int .i64 AL):=(ah Al.out 4).trans rfl;have Gi : Cn.cell? ⟨Am,5,none⟩ = some (.int .i64 AO):=(ah Al.out 5).trans rfl;have Gj : Cn.cell? ⟨Am,6,none⟩ = some (.slice AX Au.length AY):=(ah Al.out 6).trans rfl;have Gl:=au Al.out 0;have Gm:=au Al.out 1;have Gn:=au Al.out 2;have Gp:=au Al.out 3;have Gq:=au Al.out 4;have Gr:=au Al.out 5;have Gs:=au Al.out 6;have Gt : Cn.cell? ⟨Ap,0,none⟩ = some (.string Bh):=(ah Ao.out 0).trans rfl;have Gu : Cn.cell? ⟨Ap,1,none⟩ = some (.string Bj):=(ah Ao.out 1).trans rfl;have Gv : Cn.cell? ⟨Ap,2,none⟩ = some (.slice Bz Bg.length BD):=(ah Ao.out 2).trans rfl;have Gw : Cn.cell? ⟨Ap,3,none⟩ = some (.slice BF Bf.length BG):=(ah Ao.out 3).trans rfl;have Gx : Cn.cell? ⟨Ap,4,none⟩ = some (.int .i64 Bl):=(ah Ao.out 4).trans rfl;have Gy : Cn.cell? ⟨Ap,5,none⟩ = some (.int .i64 Bn):=(ah Ao.out 5).trans rfl;have Gz : Cn.cell? ⟨Ap,6,none⟩ = some (.slice BH AZ.length BI):=(ah Ao.out 6).trans rfl;have GA:=au Ao.out 0;have GD:=au Ao.out 1;have GI:=au Ao.out 2;have GJ:=au Ao.out 3;have GK:=au Ao.out 4;have GL:=au Ao.out 5;have GN:=au Ao.out 6))
    go_ret
    exact ⟨by first|rfl|(simp [aV,aW] <;> rfl)|(simp [*,aV,aW] <;> rfl),hb_⟩
  ·rw [if_neg c4] at H
   have c4b0 : (AJ.toList == Bj.toList) = false:=beq_eq_false_iff_ne.mpr c4
   have c4b1 : (AJ.toList != Bj.toList) = true:=bne_iff_ne.mpr c4
   obtain rfl:=Option.some.inj H
   go_enter Tryd.func52,Tryd.ntmps52
   go_wp2_with (first|((with_reducible refine dA (N:=2) rfl ?_);refine dG ?hg (N:=2) ?hd (cs:=#[.string AB,.string AJ,.slice AP AA.length AQ,.slice AU Az.length AV,.int .i64 AL,.int .i64 AO,.slice AX Au.length AY]) (t:=43) ?hr ?_;(case hd=>rfl);(case hg=>rfl);(case hr=>first|(go_simp;done)|(go_simp;rfl));intro Am hg Jt hbox hb;have Bo:=Aside0.mk (aJ hb_ hb);have Bp:=Aside0.mk (hbox);have Bq:=Aside0.mk ((by rw [hg];exact (aY hb_) : w.heap.size ≤ Am));have Br:=Aside0.mk ((by rw [hg];exact (aY hb_) : w.heap.size ≤ Am));clear HB;have HB:=Bo;have Al:=Bp;have BL:=Bq;have BN:=Br;clear Bo Bp Bq Br;clear hb hbox hg)|((with_reducible refine dA (N:=3) rfl ?_);refine dG ?hg (N:=3) ?hd (cs:=#[.string Bh,.string Bj,.slice Bz Bg.length BD,.slice BF Bf.length BG,.int .i64 Bl,.int .i64 Bn,.slice BH AZ.length BI]) (t:=43) ?hr ?_;(case hd=>rfl);(case hg=>rfl);(case hr=>first|(go_simp;done)|(go_simp;rfl));intro Ap hg Co hbox hb;have Bo:=Aside0.mk (aM (g:=Am) (o:=.cells #[.string AB,.string AJ,.slice AP AA.length AQ,.slice AU Az.length AV,.int .i64 AL,.int .i64 AO,.slice AX Au.length AY] 43 (0,0)) (bk_ Al.out) hb);have Bp:=Aside0.mk (aJ hb_ hb);have Bq:=Aside0.mk (hbox);have Br:=Aside0.mk ((by rw [hg];exact (aY hb_) : w.heap.size ≤ Ap));have BO:=Aside0.mk ((by rw [hg];exact (aY hb_) : w.heap.size ≤ Ap));have BP:=Aside0.mk ((by rw [hg];exact Nat.ne_of_lt (dn (g:=Am) (o:=.cells #[.string AB,.string AJ,.slice AP AA.length AQ,.slice AU Az.length AV,.int .i64 AL,.int .i64 AO,.slice AX Au.length AY] 43 (0,0)) (bk_ Al.out)) : Am ≠ Ap));have BQ:=Aside0.mk ((by rw [hg];exact Nat.ne_of_gt (dn (g:=Am) (o:=.cells #[.string AB,.string AJ,.slice AP AA.length AQ,.slice AU Az.length AV,.int .i64 AL,.int .i64 AO,.slice AX Au.length AY] 43 (0,0)) (bk_ Al.out)) : Ap ≠ Am));clear Al;clear HB;have Al:=Bo;have HB:=Bp;have Ao:=Bq;have BR:=Br;have BS:=BO;have Aw:=BP;have Ay:=BQ;clear Bo Bp Bq Br BO BP BQ;clear hb hbox hg;have Je:=Aw.out;have Jf:=Ay.out;have GQ : Co.cell? ⟨Am,0,none⟩ = some (.string AB):=(ah Al.out 0).trans rfl;have GR : Co.cell? ⟨Am,1,none⟩ = some (.string AJ):=(ah Al.out 1).trans rfl;have GU : Co.cell? ⟨Am,2,none⟩ = some (.slice AP AA.length AQ):=(ah Al.out 2).trans rfl;have GV : Co.cell? ⟨Am,3,none⟩ = some (.slice AU Az.length AV):=(ah Al.out 3).trans rfl;have GX : Co.cell? ⟨Am,4,none⟩ = some (.int .i64 AL):=(ah Al.out 4).trans rfl;have GY : Co.cell? ⟨Am,5,none⟩ = some (.int .i64 AO):=(ah Al.out 5).trans rfl;have GZ : Co.cell? ⟨Am,6,none⟩ = some (.slice AX Au.length AY):=(ah Al.out 6).trans rfl;have G6:=au Al.out 0;have G7:=au Al.out 1;have G8:=au Al.out 2;have G9:=au Al.out 3;have He:=au Al.out 4;have Hf:=au Al.out 5;have Hg:=au Al.out 6;have Hl : Co.cell? ⟨Ap,0,none⟩ = some (.string Bh):=(ah Ao.out 0).trans rfl;have Ho : Co.cell? ⟨Ap,1,none⟩ = some (.string Bj):=(ah Ao.out 1).trans rfl;have Hq : Co.cell? ⟨Ap,2,none⟩ = some (.slice Bz Bg.length BD):=(ah Ao.out 2).trans rfl;have Hr : Co.cell? ⟨Ap,3,none⟩ = some (.slice BF Bf.length BG):=(ah Ao.out 3).trans rfl;have Ht : Co.cell? ⟨Ap,4,none⟩ = some (.int .i64 Bl):=(ah Ao.out 4).trans rfl;have Hu : Co.cell? ⟨Ap,5,none⟩ = some (.int .i64 Bn):=(ah Ao.out 5).trans rfl;have Hw : Co.cell? ⟨Ap,6,none⟩ = some (.slice BH AZ.length BI):=(ah Ao.out 6).trans rfl;have Hy:=au Ao.out 0;have Hz:=au Ao.out 1;have H6:=au Ao.out 2;have H7:=au Ao.out 3;have H8:=au Ao.out 4;have H9:=au Ao.out 5;have Ia:=au Ao.out 6))
   go_ret
   exact ⟨by first|rfl|(simp [aV,aW] <;> rfl)|(simp [*,aV,aW] <;> rfl),hb_⟩
 ·rw [if_neg c3] at H
  have c3b0 : (AB.toList == Bh.toList) = false:=beq_eq_false_iff_ne.mpr c3
  have c3b1 : (AB.toList != Bh.toList) = true:=bne_iff_ne.mpr c3
  obtain rfl:=Option.some.inj H
  go_enter Tryd.func52,Tryd.ntmps52
  go_wp2_with (first|((with_reducible refine dA (N:=2) rfl ?_);refine dG ?hg (N:=2) ?hd (cs:=#[.string AB,.string AJ,.slice AP AA.length AQ,.slice AU Az.length AV,.int .i64 AL,.int .i64 AO,.slice AX Au.length AY]) (t:=43) ?hr ?_;(case hd=>rfl);(case hg=>rfl);(case hr=>first|(go_simp;done)|(go_simp;rfl));intro Am hg Ju hbox hb;have Bo:=Aside0.mk (aJ hb_ hb);have Bp:=Aside0.mk (hbox);have Bq:=Aside0.mk ((by rw [hg];exact (aY hb_) : w.heap.size ≤ Am));have Br:=Aside0.mk ((by rw [hg];exact (aY hb_) : w.heap.size ≤ Am));clear HB;have HB:=Bo;have Al:=Bp;have BL:=Bq;have BN:=Br;clear Bo Bp Bq Br;clear hb hbox hg)|((with_reducible refine dA (N:=3) rfl ?_);refine dG ?hg (N:=3) ?hd (cs:=#[.string Bh,.string Bj,.slice Bz Bg.length BD,.slice BF Bf.length BG,.int .i64 Bl,.int .i64 Bn,.slice BH AZ.length BI]) (t:=43) ?hr ?_;(case hd=>rfl);(case hg=>rfl);(case hr=>first|(go_simp;done)|(go_simp;rfl));intro Ap hg Cq hbox hb;have Bo:=Aside0.mk (aM (g:=Am) (o:=.cells #[.string AB,.string AJ,.slice AP AA.length AQ,.slice AU Az.length AV,.int .i64 AL,.int .i64 AO,.slice AX Au.length AY] 43 (0,0)) (bk_ Al.out) hb);have Bp:=Aside0.mk (aJ hb_ hb);have Bq:=Aside0.mk (hbox);have Br:=Aside0.mk ((by rw [hg];exact (aY hb_) : w.heap.size ≤ Ap));have BO:=Aside0.mk ((by rw [hg];exact (aY hb_) : w.heap.size ≤ Ap));have BP:=Aside0.mk ((by rw [hg];exact Nat.ne_of_lt (dn (g:=Am) (o:=.cells #[.string AB,.string AJ,.slice AP AA.length AQ,.slice AU Az.length AV,.int .i64 AL,.int .i64 AO,.slice AX Au.length AY] 43 (0,0)) (bk_ Al.out)) : Am ≠ Ap));have BQ:=Aside0.mk ((by rw [hg];exact Nat.ne_of_gt (dn (g:=Am) (o:=.cells #[.string AB,.string AJ,.slice AP AA.length AQ,.slice AU Az.length AV,.int .i64 AL,.int .i64 AO,.slice AX Au.length AY] 43 (0,0)) (bk_ Al.out)) : Ap ≠ Am));clear Al;clear HB;have Al:=Bo;have HB:=Bp;have Ao:=Bq;have BR:=Br;have BS:=BO;have Aw:=BP;have Ay:=BQ;clear Bo Bp Bq Br BO BP BQ;clear hb hbox hg;have Jg:=Aw.out;have Jh:=Ay.out;have Ib : Cq.cell? ⟨Am,0,none⟩ = some (.string AB):=(ah Al.out 0).trans rfl;have Ic : Cq.cell? ⟨Am,1,none⟩ = some (.string AJ):=(ah Al.out 1).trans rfl;have Ie : Cq.cell? ⟨Am,2,none⟩ = some (.slice AP AA.length AQ):=(ah Al.out 2).trans rfl;have Ig : Cq.cell? ⟨Am,3,none⟩ = some (.slice AU Az.length AV):=(ah Al.out 3).trans rfl;have Ih : Cq.cell? ⟨Am,4,none⟩ = some (.int .i64 AL):=(ah Al.out 4).trans rfl;have Ii : Cq.cell? ⟨Am,5,none⟩ = some (.int .i64 AO):=(ah Al.out 5).trans rfl;have Ij : Cq.cell? ⟨Am,6,none⟩ = some (.slice AX Au.length AY):=(ah Al.out 6).trans rfl;have Ik:=au Al.out 0;have Il:=au Al.out 1;have Im:=au Al.out 2;have Io:=au Al.out 3;have Ip:=au Al.out 4;have Iq:=au Al.out 5;have Ir:=au Al.out 6;have Iu : Cq.cell? ⟨Ap,0,none⟩ = some (.string Bh):=(ah Ao.out 0).trans rfl;have Iw : Cq.cell? ⟨Ap,1,none⟩ = some (.string Bj):=(ah Ao.out 1).trans rfl;have Iy : Cq.cell? ⟨Ap,2,none⟩ = some (.slice Bz Bg.length BD):=(ah Ao.out 2).trans rfl;have Iz : Cq.cell? ⟨Ap,3,none⟩ = some (.slice BF Bf.length BG):=(ah Ao.out 3).trans rfl;have IB : Cq.cell? ⟨Ap,4,none⟩ = some (.int .i64 Bl):=(ah Ao.out 4).trans rfl;have IC : Cq.cell? ⟨Ap,5,none⟩ = some (.int .i64 Bn):=(ah Ao.out 5).trans rfl;have IE : Cq.cell? ⟨Ap,6,none⟩ = some (.slice BH AZ.length BI):=(ah Ao.out 6).trans rfl;have IG:=au Ao.out 0;have II:=au Ao.out 1;have IJ:=au Ao.out 2;have IK:=au Ao.out 3;have IL:=au Ao.out 4;have IQ:=au Ao.out 5;have IU:=au Ao.out 6))
  go_ret
  exact ⟨by first|rfl|(simp [aV,aW] <;> rfl)|(simp [*,aV,aW] <;> rfl),hb_⟩
end Go.Proofs.YtpflenjhmeaeoaaDoor.GUt
