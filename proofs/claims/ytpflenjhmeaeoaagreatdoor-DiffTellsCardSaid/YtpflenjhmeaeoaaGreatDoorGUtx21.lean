/- Written by this session's own program (wip/gen.py) out of the translation: plain Lean functions of the Go functions, and proofs that the calls come to their answers. No conditions beside those in the statements. -/
import Derived.Test.YtpflenjhmeaeoaaGreatDoorCp
import Derived.Test.YtpflenjhmeaeoaaGreatDoorGUtx0
import Derived.Test.YtpflenjhmeaeoaaGreatDoorGUtx1
namespace Go.Proofs.YtpflenjhmeaeoaaGreatDoor.GUt
open Go.RowKit Go.Proofs.YtpflenjhmeaeoaaGreatDoorW.PrintWords Go.Proofs.YtpflenjhmeaeoaaGreatDoorW.PrintLast Go.Proofs.YtpflenjhmeaeoaaGreatDoorW.PrintMore
attribute [local go_sem] fJ fK gH gI eO eP fM fO
set_option linter.unusedVariables false
set_option linter.unusedSimpArgs false
attribute [local go_sem high] Am
def bq.l0 : Nat → List (S30) → List (S43) → Int → Int → Option (Bool)
 | 0,_,_,_,_=>none
 | k + 1,x0,x1,FY,DC=>if DC < FY then (if 0 ≤ DC then (if DC < (x0.length : Int) then (if DC < (x1.length : Int) then (if (!(((eT x0 DC).f0) == ((dU x1 DC).f0)) || (!((((eT x0 DC).f1).toList) == (((dU x1 DC).f1).toList)) || (!((((eT x0 DC).f2).toList) == (((dU x1 DC).f2).toList))))) = true then (some false) else (bq.l0 k x0 x1 FY (wrap64 (DC + 1)))) else (none)) else (none)) else (none)) else (some true)
def bq.f (k : Nat) (l0 : List (S30)) (l1 : List (S43)) : Option (Bool):=if (l0.length : Int) = (l1.length : Int) then (bq.l0 k l0 l1 (l0.length : Int) 0) else (some false)
theorem bq.dQ : ∀ k,(∀ y0 y1 y2 y3,LeO (bq.l0 k y0 y1 y2 y3) (bq.l0 (k + 1) y0 y1 y2 y3))
 | 0=>fun _ _ _ _ r h=>by simp [bq.l0] at h
 | k + 1=>by
  have Ct:=bq.dQ k
  ·intro y0 y1 y2 y3
   unfold bq.l0
   repeat' first
   | (with_reducible exact Ct _ _ _ _)
   | (with_reducible exact LeO.refl _)
   | (with_reducible exact LeO.none _)
   | (with_reducible refine LeO.ite ?_ ?_)
   | (with_reducible refine LeO.bind ?_ (fun _=>?_))
   | exact Ct _ _ _ _
   | exact LeO.none _
   | refine LeO.ite ?_ ?_
   | refine LeO.bind ?_ (fun _=>?_)
theorem bq.mono : ∀ a0 a1 k,LeO (bq.f k a0 a1) (bq.f (k + 1) a0 a1):=by
 intro a0 a1 k
 have Ct:=bq.dQ k
 unfold bq.f
 repeat' first
   | (with_reducible exact Ct _ _ _ _)
   | (with_reducible exact LeO.refl _)
   | (with_reducible exact LeO.none _)
   | (with_reducible refine LeO.ite ?_ ?_)
   | (with_reducible refine LeO.bind ?_ (fun _=>?_))
   | exact Ct _ _ _ _
   | exact LeO.none _
   | refine LeO.ite ?_ ?_
   | refine LeO.bind ?_ (fun _=>?_)
set_option maxHeartbeats 8000000 in
set_option maxRecDepth 100000 in
theorem bq.calls (k : Nat) (A0 : Option Addr) (c0 : Nat) (l0 : List (S30)) (A1 : Option Addr) (c1 : Nat) (l1 : List (S43)) (r : Bool) (w : World) (hr0 : Kd.C k30 w A0 l0.length l0) (hc0 : l0.length ≤ c0) (hr1 : Kd.C k43 w A1 l1.length l1) (hc1 : l1.length ≤ c1) (h : bq.f k l0 l1 = some r) :
  Calls Tryz.prog 7 #[.slice A0 l0.length c0,.slice A1 l1.length c1] w fun e w'=>e = .returned (.bool r) ∧ Drawn0 w w':=by
 have FH:=Tryz.underlying43
 have CF:=Aside0.mk hr0
 have Ew:=Aside0.mk hc0
 clear hr0 hc0
 have HR1:=Aside0.mk hr1
 have Ga:=Aside0.mk hc1
 clear hr1 hc1
 have H : (if (l0.length : Int) = (l1.length : Int) then (bq.l0 k l0 l1 (l0.length : Int) 0) else (some false)) = some r:=h
 clear h
 by_cases c3 : (l0.length : Int) = (l1.length : Int)
 ·rw [if_pos c3] at H
  have c3b0 : ((l0.length : Int) == (l1.length : Int)) = true:=beq_iff_eq.mpr c3
  have c3b1 : ((l0.length : Int) != (l1.length : Int)) = false:=bne_eq_false_iff_eq.mpr c3
  have c3b2 : (l0.length == l1.length) = true:=by first|simpa using c3|(simp at c3 ⊢;omega)
  clear c3
  have H':=Aside0.mk H
  clear H
  go_enter Tryz.func7,Tryz.ntmps7
  go_wp2
  repeat (go_quiet (fail);try go_wp2)
  go_loopg [13] k (fun kq v13 w'=>∃ (Bh : Int),v13 = .int .i64 Bh ∧ Aside0 (bq.l0 kq l0 l1 (l0.length : Int) Bh = some r) ∧ Aside0 (kq ≤ k) ∧ Drawn0 w w')
  case atStart=>exact ⟨(0),(by first|rfl|(simp;done)|(simp [*];done)),H',⟨Nat.le_refl _⟩,by repeat (first|exact Drawn0.refl _|apply Drawn0.step)⟩
  case round =>
   clear H'
   obtain ⟨Bh,rfl,HA,DF,⟨m1,rfl⟩⟩:=hrel
   cases gk with
   | zero=>exact absurd HA.out (by simp [bq.l0])
   | succ k1 =>
    have H:=HA.out
    clear HA
    simp only [bq.l0] at H
    by_cases c4 : Bh < (l0.length : Int)
    ·rw [if_pos c4] at H
     have c4b0 : decide (Bh < (l0.length : Int)) = true:=decide_eq_true c4
     clear c4
     by_cases c5 : 0 ≤ Bh
     ·rw [if_pos c5] at H
      have c5b0 : decide (0 ≤ Bh) = true:=decide_eq_true c5
      clear c5
      by_cases c6 : Bh < (l0.length : Int)
      ·rw [if_pos c6] at H
       have c6b0 : decide (Bh < (l0.length : Int)) = true:=decide_eq_true c6
       clear c6
       by_cases c7 : Bh < (l1.length : Int)
       ·rw [if_pos c7] at H
        have c7b0 : decide (Bh < (l1.length : Int)) = true:=decide_eq_true c7
        clear c7
        by_cases c8 : (!(((eT l0 Bh).f0) == ((dU l1 Bh).f0)) || (!((((eT l0 Bh).f1).toList) == (((dU l1 Bh).f1).toList)) || (!((((eT l0 Bh).f2).toList) == (((dU l1 Bh).f2).toList))))) = true
        ·rw [if_pos c8] at H
         have c8b0 : (!(((eT l0 Bh).f0) == ((dU l1 Bh).f0)) || (!((((eT l0 Bh).f1).toList) == (((dU l1 Bh).f1).toList)) || (!((((eT l0 Bh).f2).toList) == (((dU l1 Bh).f2).toList))))) = true:=c8
         clear c8
         obtain rfl:=Option.some.inj H
         have Df : 0 ≤ (Bh : Int):=of_decide_eq_true (by first|(with_reducible assumption)|assumption)
         have Dh : Bh < (l0.length : Int):=of_decide_eq_true (by first|(with_reducible assumption)|assumption)
         obtain ⟨CS,e273,Eb,Ec,Ed⟩:=lN CF.out Bh Df Dh
         cases e273
         replace Df:=eq_true Df
         replace Dh:=eq_true Dh
         have Di : 0 ≤ (Bh : Int):=of_decide_eq_true (by first|(with_reducible assumption)|assumption)
         have Dj : Bh < (l0.length : Int):=of_decide_eq_true (by first|(with_reducible assumption)|assumption)
         obtain ⟨DI,e274,Ee,Ef,Eh⟩:=lN CF.out Bh Di Dj
         obtain rfl : CS = DI:=(by injection e274)
         replace Di:=eq_true Di
         replace Dj:=eq_true Dj
         have Dk : 0 ≤ (Bh : Int):=of_decide_eq_true (by first|(with_reducible assumption)|assumption)
         have Dl : Bh < (l0.length : Int):=of_decide_eq_true (by first|(with_reducible assumption)|assumption)
         obtain ⟨DJ,e275,Ei,Ej,El⟩:=lN CF.out Bh Dk Dl
         obtain rfl : CS = DJ:=(by injection e275)
         replace Dk:=eq_true Dk
         replace Dl:=eq_true Dl
         have Dm : 0 ≤ (Bh : Int):=of_decide_eq_true (by first|(with_reducible assumption)|assumption)
         have Dn : Bh < (l1.length : Int):=of_decide_eq_true (by first|(with_reducible assumption)|assumption)
         obtain ⟨ER,EG,Em,En,Eo⟩:=oC HR1.out Bh Dm Dn
         cases EG
         replace Dm:=eq_true Dm
         replace Dn:=eq_true Dn
         go_wp2
         repeat (go_quiet (fail);try go_wp2)
         go_ret
         exact ⟨by first|rfl|(simp;done)|(simp [*];done),by repeat (first|exact Drawn0.refl _|apply Drawn0.step)⟩
        ·rw [if_neg c8] at H
         have c8b0 : (!(((eT l0 Bh).f0) == ((dU l1 Bh).f0)) || (!((((eT l0 Bh).f1).toList) == (((dU l1 Bh).f1).toList)) || (!((((eT l0 Bh).f2).toList) == (((dU l1 Bh).f2).toList))))) = false:=by simpa using c8
         clear c8
         have H':=Aside0.mk H
         clear H
         have Df : 0 ≤ (Bh : Int):=of_decide_eq_true (by first|(with_reducible assumption)|assumption)
         have Dh : Bh < (l0.length : Int):=of_decide_eq_true (by first|(with_reducible assumption)|assumption)
         obtain ⟨CS,e273,Eb,Ec,Ed⟩:=lN CF.out Bh Df Dh
         cases e273
         replace Df:=eq_true Df
         replace Dh:=eq_true Dh
         have Di : 0 ≤ (Bh : Int):=of_decide_eq_true (by first|(with_reducible assumption)|assumption)
         have Dj : Bh < (l0.length : Int):=of_decide_eq_true (by first|(with_reducible assumption)|assumption)
         obtain ⟨DI,e274,Ee,Ef,Eh⟩:=lN CF.out Bh Di Dj
         obtain rfl : CS = DI:=(by injection e274)
         replace Di:=eq_true Di
         replace Dj:=eq_true Dj
         have Dk : 0 ≤ (Bh : Int):=of_decide_eq_true (by first|(with_reducible assumption)|assumption)
         have Dl : Bh < (l0.length : Int):=of_decide_eq_true (by first|(with_reducible assumption)|assumption)
         obtain ⟨DJ,e275,Ei,Ej,El⟩:=lN CF.out Bh Dk Dl
         obtain rfl : CS = DJ:=(by injection e275)
         replace Dk:=eq_true Dk
         replace Dl:=eq_true Dl
         have Dm : 0 ≤ (Bh : Int):=of_decide_eq_true (by first|(with_reducible assumption)|assumption)
         have Dn : Bh < (l1.length : Int):=of_decide_eq_true (by first|(with_reducible assumption)|assumption)
         obtain ⟨ER,EG,Em,En,Eo⟩:=oC HR1.out Bh Dm Dn
         cases EG
         replace Dm:=eq_true Dm
         replace Dn:=eq_true Dn
         go_wp2
         repeat (go_quiet (fail);try go_wp2)
         go_roundg k1
         case measure=>have:=DF.out;omega
         case rel=>exact ⟨(wrap64 (Bh + 1)),(by first|rfl|(simp;done)|(simp [*];done)),H',⟨by have:=DF.out;omega⟩,by repeat (first|exact Drawn0.refl _|apply Drawn0.step)⟩
       ·rw [if_neg c7] at H
        exact absurd H (by simp)
      ·rw [if_neg c6] at H
       exact absurd H (by simp)
     ·rw [if_neg c5] at H
      exact absurd H (by simp)
    ·rw [if_neg c4] at H
     have c4b0 : decide (Bh < (l0.length : Int)) = false:=decide_eq_false c4
     clear c4
     obtain rfl:=Option.some.inj H
     go_wp2
     repeat (go_quiet (fail);try go_wp2)
     go_ret
     exact ⟨by first|rfl|(simp;done)|(simp [*];done),by repeat (first|exact Drawn0.refl _|apply Drawn0.step)⟩
 ·rw [if_neg c3] at H
  have c3b0 : ((l0.length : Int) == (l1.length : Int)) = false:=beq_eq_false_iff_ne.mpr c3
  have c3b1 : ((l0.length : Int) != (l1.length : Int)) = true:=bne_iff_ne.mpr c3
  have c3b2 : (l0.length == l1.length) = false:=by first|simpa using c3|(simp at c3 ⊢;omega)
  obtain rfl:=Option.some.inj H
  go_enter Tryz.func7,Tryz.ntmps7
  go_wp2
  repeat (go_quiet (fail);try go_wp2)
  go_ret
  exact ⟨by first|rfl|(simp;done)|(simp [*];done),by repeat (first|exact Drawn0.refl _|apply Drawn0.step)⟩
def bC.l0 : Nat → ByteArray → Int → Int → List (S59) → Option (Int)
 | 0,_,_,_,_=>none
 | k + 1,x1,x5,Ep,CG=>if x5 < (CG.length : Int) then (if 0 ≤ x5 then (if ((aJ CG x5).f0).toList = x1.toList then (some x5) else (bC.l0 k x1 (wrap64 (x5 + 1)) Ep CG)) else (none)) else (some (-1))
def bC.f (k : Nat) (Cu : Int) (BD : List (S59)) (a1 : ByteArray) : Option (Int):=bC.l0 k a1 0 Cu BD
theorem bC.dQ : ∀ k,(∀ y0 y1 y2 y3,LeO (bC.l0 k y0 y1 y2 y3) (bC.l0 (k + 1) y0 y1 y2 y3))
 | 0=>fun _ _ _ _ r h=>by simp [bC.l0] at h
 | k + 1=>by
  have Ct:=bC.dQ k
  ·intro y0 y1 y2 y3
   unfold bC.l0
   repeat' first
   | (with_reducible exact Ct _ _ _ _)
   | (with_reducible exact LeO.refl _)
   | (with_reducible exact LeO.none _)
   | (with_reducible refine LeO.ite ?_ ?_)
   | (with_reducible refine LeO.bind ?_ (fun _=>?_))
   | exact Ct _ _ _ _
   | exact LeO.none _
   | refine LeO.ite ?_ ?_
   | refine LeO.bind ?_ (fun _=>?_)
theorem bC.mono : ∀ a0 a1 a2 k,LeO (bC.f k a0 a1 a2) (bC.f (k + 1) a0 a1 a2):=by
 intro a0 a1 a2 k
 have Ct:=bC.dQ k
 unfold bC.f
 repeat' first
   | (with_reducible exact Ct _ _ _ _)
   | (with_reducible exact LeO.refl _)
   | (with_reducible exact LeO.none _)
   | (with_reducible refine LeO.ite ?_ ?_)
   | (with_reducible refine LeO.bind ?_ (fun _=>?_))
   | exact Ct _ _ _ _
   | exact LeO.none _
   | refine LeO.ite ?_ ?_
   | refine LeO.bind ?_ (fun _=>?_)
set_option maxHeartbeats 8000000 in
set_option maxRecDepth 100000 in
theorem bC.calls (k : Nat) (Cu : Int) (Dp : Option Addr) (Dq : Nat) (BD : List (S59)) (a1 : ByteArray) (r : Int) (w : World) (Ey : Kd.C k59 w Dp BD.length BD) (Ez : BD.length ≤ Dq) (h : bC.f k Cu BD a1 = some r) :
  Calls Tryz.prog 19 #[.agg #[.int .u64 Cu,.slice Dp BD.length Dq],.string a1] w fun e w'=>e = .returned (.int .i64 r) ∧ Below w.heap.size w w':=by
 have Gb:=Tryz.underlying38
 have EA:=Aside0.mk Ey
 have FZ:=Aside0.mk Ez
 clear Ey Ez
 have HB:=Aside0.mk (Below.refl w.heap.size w)
 have H : (bC.l0 k a1 0 Cu BD) = some r:=h
 clear h
 have H':=Aside0.mk H
 clear H
 go_enter Tryz.func19,Tryz.ntmps19
 go_wp2_with (first|((with_reducible refine cZ (N:=2) rfl ?_);refine dA ?hg (N:=2) ?hd (cs:=#[.int .u64 Cu,.slice Dp BD.length Dq]) (t:=38) ?hr ?_;(case hd=>rfl);(case hg=>rfl);(case hr=>first|(go_simp;done)|(go_simp;rfl));intro Ca hg w3 hbox hb;have Bu:=Aside0.mk (aK hb_ hb);have Bv:=Aside0.mk (hbox);have Bw:=Aside0.mk ((by rw [hg];exact (aM hb_) : w.heap.size ≤ Ca));have DK:=Aside0.mk ((by rw [hg];exact (aM hb_) : w.heap.size ≤ Ca));clear HB;have HB:=Bu;have BF:=Bv;have F3:=Bw;have F4:=DK;clear Bu Bv Bw DK;clear hb hbox hg))
 go_loopg [5] k (fun kq v5 w'=>∃ (Bj : Int),v5 = .int .i64 Bj ∧ Aside0 (bC.l0 kq a1 Bj Cu BD = some r) ∧ Aside0 (kq ≤ k) ∧ Aside0 (w'.heap[Ca]? = some (.cells #[.int .u64 Cu,(.slice Dp BD.length Dq)] 38 (0,0))) ∧ Aside0 (Below w.heap.size w w'))
 case atStart=>exact ⟨(0),(by first|rfl|(simp;done)|(simp [*];done)),H',⟨Nat.le_refl _⟩,⟨by (with_reducible repeat (first|apply ay|apply aG|apply aD));exact BF.out⟩,⟨hb_⟩⟩
 case round =>
  clear H'
  obtain ⟨Bj,rfl,HA,DF,BF,HB⟩:=hrel
  cases gk with
  | zero=>exact absurd HA.out (by simp [bC.l0])
  | succ k1 =>
   have H:=HA.out
   clear HA
   simp only [bC.l0] at H
   by_cases c4 : Bj < (BD.length : Int)
   ·rw [if_pos c4] at H
    have c4b0 : decide (Bj < (BD.length : Int)) = true:=decide_eq_true c4
    clear c4
    by_cases c5 : 0 ≤ Bj
    ·rw [if_pos c5] at H
     have c5b0 : decide (0 ≤ Bj) = true:=decide_eq_true c5
     clear c5
     by_cases c6 : ((aJ BD Bj).f0).toList = a1.toList
     ·rw [if_pos c6] at H
      have c6b0 : (((aJ BD Bj).f0).toList == a1.toList) = true:=beq_iff_eq.mpr c6
      have c6b1 : (((aJ BD Bj).f0).toList != a1.toList) = false:=bne_eq_false_iff_eq.mpr c6
      clear c6
      obtain rfl:=Option.some.inj H
      have FI : wr.cell? ⟨Ca,0,none⟩ = some (.int .u64 Cu):=(ah BF.out 0).trans rfl
      have FJ : wr.cell? ⟨Ca,1,none⟩ = some (.slice Dp BD.length Dq):=(ah BF.out 1).trans rfl
      have FL:=ak BF.out 0
      have FM:=ak BF.out 1
      have Dr : 0 ≤ (Bj : Int):=of_decide_eq_true (by first|(with_reducible assumption)|assumption)
      have Dt : Bj < (BD.length : Int):=of_decide_eq_true (by first|(with_reducible assumption)|assumption)
      obtain ⟨ES,EH,EI,e278,BH,BI,BJ,BK,BL,BN,BO,Cb,Cc⟩:=jR EA.out Bj Dr Dt
      cases e278
      replace BH:=(HB.out.cell (World.block_lt_of_cell? w _ BH)).trans BH
      replace BI:=(HB.out.cell (World.block_lt_of_cell? w _ BI)).trans BI
      replace BJ:=(HB.out.cell (World.block_lt_of_cell? w _ BJ)).trans BJ
      replace BK:=(HB.out.cell (World.block_lt_of_cell? w _ BK)).trans BK
      replace BL:=(HB.out.cell (World.block_lt_of_cell? w _ BL)).trans BL
      replace BN:=(HB.out.cell (World.block_lt_of_cell? w _ BN)).trans BN
      replace BO:=(HB.out.cell (World.block_lt_of_cell? w _ BO)).trans BO
      have Er:=Aside0.mk Cc
      have Es:=Aside0.mk Cb
      clear Cc Cb
      replace Dr:=eq_true Dr
      replace Dt:=eq_true Dt
      go_wp2
      go_ret
      exact ⟨by first|rfl|(simp [aY,aZ] <;> rfl)|(simp [*,aY,aZ] <;> rfl),hb_⟩
     ·rw [if_neg c6] at H
      have c6b0 : (((aJ BD Bj).f0).toList == a1.toList) = false:=beq_eq_false_iff_ne.mpr c6
      have c6b1 : (((aJ BD Bj).f0).toList != a1.toList) = true:=bne_iff_ne.mpr c6
      have H':=Aside0.mk H
      clear H
      have EJ : wr.cell? ⟨Ca,0,none⟩ = some (.int .u64 Cu):=(ah BF.out 0).trans rfl
      have EK : wr.cell? ⟨Ca,1,none⟩ = some (.slice Dp BD.length Dq):=(ah BF.out 1).trans rfl
      have EL:=ak BF.out 0
      have EM:=ak BF.out 1
      have Dr : 0 ≤ (Bj : Int):=of_decide_eq_true (by first|(with_reducible assumption)|assumption)
      have Dt : Bj < (BD.length : Int):=of_decide_eq_true (by first|(with_reducible assumption)|assumption)
      obtain ⟨ES,EH,EI,e278,BH,BI,BJ,BK,BL,BN,BO,Cb,Cc⟩:=jR EA.out Bj Dr Dt
      cases e278
      replace BH:=(HB.out.cell (World.block_lt_of_cell? w _ BH)).trans BH
      replace BI:=(HB.out.cell (World.block_lt_of_cell? w _ BI)).trans BI
      replace BJ:=(HB.out.cell (World.block_lt_of_cell? w _ BJ)).trans BJ
      replace BK:=(HB.out.cell (World.block_lt_of_cell? w _ BK)).trans BK
      replace BL:=(HB.out.cell (World.block_lt_of_cell? w _ BL)).trans BL
      replace BN:=(HB.out.cell (World.block_lt_of_cell? w _ BN)).trans BN
      replace BO:=(HB.out.cell (World.block_lt_of_cell? w _ BO)).trans BO
      have Er:=Aside0.mk Cc
      have Es:=Aside0.mk Cb
      clear Cc Cb
      replace Dr:=eq_true Dr
      replace Dt:=eq_true Dt
      go_wp2
      go_roundg k1
      case measure=>have:=DF.out;omega
      case rel=>exact ⟨(wrap64 (Bj + 1)),(by first|rfl|(simp;done)|(simp [*];done)),H',⟨by have:=DF.out;omega⟩,⟨by (with_reducible repeat (first|apply ay|apply aG|apply aD));exact BF.out⟩,⟨hb_⟩⟩
    ·rw [if_neg c5] at H
     exact absurd H (by simp)
   ·rw [if_neg c4] at H
    have c4b0 : decide (Bj < (BD.length : Int)) = false:=decide_eq_false c4
    clear c4
    obtain rfl:=Option.some.inj H
    have FN : wr.cell? ⟨Ca,0,none⟩ = some (.int .u64 Cu):=(ah BF.out 0).trans rfl
    have FP : wr.cell? ⟨Ca,1,none⟩ = some (.slice Dp BD.length Dq):=(ah BF.out 1).trans rfl
    have FQ:=ak BF.out 0
    have FR:=ak BF.out 1
    go_wp2
    go_ret
    exact ⟨by first|rfl|(simp [aY,aZ] <;> rfl)|(simp [*,aY,aZ] <;> rfl),hb_⟩
def bA.l0 : Nat → List (S43) → List (S43) → Int → Int → ByteArray → ByteArray → Option ((List (S43)))
 | 0,_,_,_,_,_,_=>none
 | k + 1,x0,x5,x6,CJ,Cr,CK=>if x6 < (x0.length : Int) then (if 0 ≤ x6 then (if (Op.bytesLess (((dU x0 x6).f1).toList) Cr.toList) = true then (if x5.length < 3518437208883 then (bA.l0 k x0 (x5 ++ [(⟨(dU x0 x6).f0,(dU x0 x6).f1,(dU x0 x6).f2⟩ : S43)]) (wrap64 (x6 + 1)) CJ Cr CK) else (none)) else (if x5.length < 3518437208883 then ((some (x5 ++ [(⟨CJ,Cr,CK⟩ : S43)] : List (S43))).bind fun Co=>(if x6 ≤ (x0.length : Int) then ((some (x0.drop (x6 : Int).toNat : List (S43))).bind fun Br=>(if Co.length + Br.length < 3518437208883 then (some (Co ++ Br)) else (none))) else (none))) else (none))) else (none)) else (if x5.length < 3518437208883 then ((some (x5 ++ [(⟨CJ,Cr,CK⟩ : S43)] : List (S43))).bind fun Cq=>(if 0 ≤ x6 then (if x6 ≤ (x0.length : Int) then ((some (x0.drop (x6 : Int).toNat : List (S43))).bind fun Bt=>(if Cq.length + Bt.length < 3518437208883 then (some (Cq ++ Bt)) else (none))) else (none)) else (none))) else (none))
def bA.f (k : Nat) (l0 : List (S43)) (Bn : Int) (Bl : ByteArray) (Bo : ByteArray) : Option ((List (S43))):=bA.l0 k l0 ([] : List (S43)) 0 Bn Bl Bo
theorem bA.dQ : ∀ k,(∀ y0 y1 y2 y3 y4 y5,LeO (bA.l0 k y0 y1 y2 y3 y4 y5) (bA.l0 (k + 1) y0 y1 y2 y3 y4 y5))
 | 0=>fun _ _ _ _ _ _ r h=>by simp [bA.l0] at h
 | k + 1=>by
  have Ct:=bA.dQ k
  ·intro y0 y1 y2 y3 y4 y5
   unfold bA.l0
   repeat' first
   | (with_reducible exact Ct _ _ _ _ _ _)
   | (with_reducible exact LeO.refl _)
   | (with_reducible exact LeO.none _)
   | (with_reducible refine LeO.ite ?_ ?_)
   | (with_reducible refine LeO.bind ?_ (fun _=>?_))
   | exact Ct _ _ _ _ _ _
   | exact LeO.none _
   | refine LeO.ite ?_ ?_
   | refine LeO.bind ?_ (fun _=>?_)
theorem bA.mono : ∀ a0 a1 a2 a3 k,LeO (bA.f k a0 a1 a2 a3) (bA.f (k + 1) a0 a1 a2 a3):=by
 intro a0 a1 a2 a3 k
 have Ct:=bA.dQ k
 unfold bA.f
 repeat' first
   | (with_reducible exact Ct _ _ _ _ _ _)
   | (with_reducible exact LeO.refl _)
   | (with_reducible exact LeO.none _)
   | (with_reducible refine LeO.ite ?_ ?_)
   | (with_reducible refine LeO.bind ?_ (fun _=>?_))
   | exact Ct _ _ _ _ _ _
   | exact LeO.none _
   | refine LeO.ite ?_ ?_
   | refine LeO.bind ?_ (fun _=>?_)
set_option maxHeartbeats 8000000 in
set_option maxRecDepth 100000 in
theorem bA.calls (k : Nat) (A0 : Option Addr) (c0 : Nat) (l0 : List (S43)) (Bn : Int) (Bl : ByteArray) (Bo : ByteArray) (r : List (S43)) (w : World) (hr0 : Kd.C k43 w A0 l0.length l0) (hc0 : l0.length ≤ c0) (h : bA.f k l0 Bn Bl Bo = some r) :
  Calls Tryz.prog 20 #[.slice A0 l0.length c0,.agg #[.int .i64 Bn,.string Bl,.string Bo]] w fun e w'=>∃ F5 : Value,e = .returned (F5) ∧ Kd.R k43 43 w' w.heap.size (fun _=>True) F5 r ∧ Below w.heap.size w w':=by
 have FH:=Tryz.underlying43
 have CF:=Aside0.mk hr0
 have Ew:=Aside0.mk hc0
 clear hr0 hc0
 have HB:=Aside0.mk (Below.refl w.heap.size w)
 have H : (bA.l0 k l0 ([] : List (S43)) 0 Bn Bl Bo) = some r:=h
 clear h
 have H':=Aside0.mk H
 clear H
 go_enter Tryz.func20,Tryz.ntmps20
 go_wp2_with (first|((with_reducible refine cZ (N:=3) rfl ?_);refine dA ?hg (N:=3) ?hd (cs:=#[.int .i64 Bn,.string Bl,.string Bo]) (t:=43) ?hr ?_;(case hd=>rfl);(case hg=>rfl);(case hr=>first|(go_simp;done)|(go_simp;rfl));intro Bg hg w3 hbox hb;have Bu:=Aside0.mk (aK hb_ hb);have Bv:=Aside0.mk (hbox);have Bw:=Aside0.mk ((by rw [hg];exact (aM hb_) : w.heap.size ≤ Bg));have DK:=Aside0.mk ((by rw [hg];exact (aM hb_) : w.heap.size ≤ Bg));clear HB;have HB:=Bu;have AZ:=Bv;have EB:=Bw;have EC:=DK;clear Bu Bv Bw DK;clear hb hbox hg))
 repeat (go_quiet (first|((with_reducible refine cZ (N:=3) rfl ?_);refine dA ?hg (N:=3) ?hd (cs:=#[.int .i64 Bn,.string Bl,.string Bo]) (t:=43) ?hr ?_;(case hd=>rfl);(case hg=>rfl);(case hr=>first|(go_simp;done)|(go_simp;rfl));intro Bg hg w3 hbox hb;have Bu:=Aside0.mk (aK hb_ hb);have Bv:=Aside0.mk (hbox);have Bw:=Aside0.mk ((by rw [hg];exact (aM hb_) : w.heap.size ≤ Bg));have DK:=Aside0.mk ((by rw [hg];exact (aM hb_) : w.heap.size ≤ Bg));clear HB;have HB:=Bu;have AZ:=Bv;have EB:=Bw;have EC:=DK;clear Bu Bv Bw DK;clear hb hbox hg));try go_wp2_with (first|((with_reducible refine cZ (N:=3) rfl ?_);refine dA ?hg (N:=3) ?hd (cs:=#[.int .i64 Bn,.string Bl,.string Bo]) (t:=43) ?hr ?_;(case hd=>rfl);(case hg=>rfl);(case hr=>first|(go_simp;done)|(go_simp;rfl));intro Bg hg w3 hbox hb;have Bu:=Aside0.mk (aK hb_ hb);have Bv:=Aside0.mk (hbox);have Bw:=Aside0.mk ((by rw [hg];exact (aM hb_) : w.heap.size ≤ Bg));have DK:=Aside0.mk ((by rw [hg];exact (aM hb_) : w.heap.size ≤ Bg));clear HB;have HB:=Bu;have AZ:=Bv;have EB:=Bw;have EC:=DK;clear Bu Bv Bw DK;clear hb hbox hg)))
 go_loopg [5,6] k (fun kq v5 v6 w'=>∃ (Bj : List (S43)) (Bf : Int),v6 = .int .i64 Bf ∧ Aside0 (bA.l0 kq l0 Bj Bf Bn Bl Bo = some r) ∧ Aside0 (kq ≤ k) ∧ Aside0 (Kd.R k43 43 w' w.heap.size (fun k_=>k_ ≠ Bg) v5 Bj) ∧ Aside0 (w'.heap[Bg]? = some (.cells #[.int .i64 Bn,.string Bl,.string Bo] 43 (0,0))) ∧ Aside0 (Below w.heap.size w w'))
 case atStart=>exact ⟨(([] : List (S43))),(0),(by first|rfl|(simp;done)|(simp [*];done)),H',⟨Nat.le_refl _⟩,⟨by first|exact Kd.kJ _ _ _ _ _|exact Kd.qZ _ _ _ _ _|exact Kd.rA _ _ _ _ _|exact Kd.uY _ _ _ _ _|exact Kd.vo _ _ _ _ _⟩,⟨by (with_reducible repeat (first|apply ay|apply aG|apply aD));exact AZ.out⟩,⟨hb_⟩⟩
 case round =>
  clear H'
  obtain ⟨Bj,Bf,rfl,HA,DF,Bz,AZ,HB⟩:=hrel
  cases gk with
  | zero=>exact absurd HA.out (by simp [bA.l0])
  | succ k1 =>
   have H:=HA.out
   clear HA
   simp only [bA.l0] at H
   by_cases c4 : Bf < (l0.length : Int)
   ·rw [if_pos c4] at H
    have c4b0 : decide (Bf < (l0.length : Int)) = true:=decide_eq_true c4
    clear c4
    by_cases c5 : 0 ≤ Bf
    ·rw [if_pos c5] at H
     have c5b0 : decide (0 ≤ Bf) = true:=decide_eq_true c5
     clear c5
     by_cases c6 : (Op.bytesLess (((dU l0 Bf).f1).toList) Bl.toList) = true
     ·rw [if_pos c6] at H
      have c6b0 : (Op.bytesLess (((dU l0 Bf).f1).toList) Bl.toList) = true:=c6
      clear c6
      by_cases c7 : Bj.length < 3518437208883
      ·rw [if_pos c7] at H
       have EN:=Aside0.mk c7
       clear c7
       obtain ⟨ET,CU⟩ : ∃ y_ : List (S43),y_ = (Bj ++ [(⟨(dU l0 Bf).f0,(dU l0 Bf).f1,(dU l0 Bf).f2⟩ : S43)]):=⟨_,rfl⟩
       replace H : (bA.l0 k1 l0 ET (wrap64 (Bf + 1)) Bn Bl Bo) = some r:=by first|(rw [CU];with_reducible exact H)|(have Ci:=(Option.bind_some _ _).symm.trans H;rw [CU];with_reducible exact Ci)|(have Ci:=(Option.bind_some _ _).symm.trans H;with_reducible exact Ci)|with_reducible exact H|(rw [CU];exact H)|exact H
       have DL:=Aside0.mk CU
       clear CU
       have H':=Aside0.mk H
       clear H
       have Du : 0 ≤ (Bf : Int):=of_decide_eq_true (by first|(with_reducible assumption)|assumption)
       have Dv : Bf < (l0.length : Int):=of_decide_eq_true (by first|(with_reducible assumption)|assumption)
       obtain ⟨BG,e280,BP,BQ,BR⟩:=oC CF.out Bf Du Dv
       cases e280
       replace BP:=(HB.out.cell (World.block_lt_of_cell? w _ BP)).trans BP
       replace BQ:=(HB.out.cell (World.block_lt_of_cell? w _ BQ)).trans BQ
       replace BR:=(HB.out.cell (World.block_lt_of_cell? w _ BR)).trans BR
       replace Du:=eq_true Du
       replace Dv:=eq_true Dv
       have EJ : wr.cell? ⟨Bg,0,none⟩ = some (.int .i64 Bn):=(ah AZ.out 0).trans rfl
       have EK : wr.cell? ⟨Bg,1,none⟩ = some (.string Bl):=(ah AZ.out 1).trans rfl
       have FT : wr.cell? ⟨Bg,2,none⟩ = some (.string Bo):=(ah AZ.out 2).trans rfl
       have EL:=ak AZ.out 0
       have EM:=ak AZ.out 1
       have FU:=ak AZ.out 2
       have EO : 0 ≤ (Bf : Int):=of_decide_eq_true (by first|(with_reducible assumption)|assumption)
       have EP : Bf < (l0.length : Int):=of_decide_eq_true (by first|(with_reducible assumption)|assumption)
       obtain ⟨EU,FV,CO,CP,CQ⟩:=oC CF.out Bf EO EP
       obtain rfl : BG = EU:=(by injection FV)
       replace CO:=(HB.out.cell (World.block_lt_of_cell? w _ CO)).trans CO
       replace CP:=(HB.out.cell (World.block_lt_of_cell? w _ CP)).trans CP
       replace CQ:=(HB.out.cell (World.block_lt_of_cell? w _ CQ)).trans CQ
       replace EO:=eq_true EO
       replace EP:=eq_true EP
       go_wp2_with (first|((with_reducible refine fA (b:=.append) (xs:=#[.tmp 21,.tmp 26]) rfl ?_);at_builtin;refine Kd.iK k43 (w0:=w) w.heap.size rfl (.tmp 21) (.tmp 26) 34 43 (.agg #[(.int .i64 0),(.string ⟨#[]⟩),(.string ⟨#[]⟩)]) 40 rfl Tryz.underlying34 iy rfl (by decide) (by omega) u5 Bj (⟨(dU l0 Bf).f0,(dU l0 Bf).f1,(dU l0 Bf).f2⟩ : S43) [.int .i64 ((dU l0 Bf).f0),.string ((dU l0 Bf).f1),.string ((dU l0 Bf).f2)] (fun k_=>k_ ≠ Bg) (fun _=>False) rfl rfl ?aP (fun _ hk=>hk.elim) ?aF ?aO ?aB ?aS ?aL ?_;(case aP=>exact jM _ _ _ (⟨(dU l0 Bf).f0,(dU l0 Bf).f1,(dU l0 Bf).f2⟩ : S43));(case aB=>exact hb_);(case aF=>exact (fun k_ hk=>Kd.iq (g:=Bg) (o:=.cells #[.int .i64 Bn,.string Bl,.string Bo] 43 (0,0)) (bk_ AZ.out) k_ hk));(case aO=>exact (kr_ Bz.out));(case aS=>exact (aM hb_));(case aL=>have:=EN.out;omega);intro EW w9 ho hb hg hat;rw [← DL.out] at ho;have Bu:=Aside0.mk (fD (g:=Bg) (o:=.cells #[.int .i64 Bn,.string Bl,.string Bo] 43 (0,0)) (bk_ AZ.out) hg (Kd.jc Bz.out (fun _ hk=>hk)));have Bv:=Aside0.mk (hb);have Bw:=Aside0.mk (ho);clear AZ;clear HB;clear Bz;have AZ:=Bu;have HB:=Bv;have DN:=Bw;clear Bu Bv Bw;clear ho hb hg hat))
       repeat (go_quiet (first|((with_reducible refine fA (b:=.append) (xs:=#[.tmp 21,.tmp 26]) rfl ?_);at_builtin;refine Kd.iK k43 (w0:=w) w.heap.size rfl (.tmp 21) (.tmp 26) 34 43 (.agg #[(.int .i64 0),(.string ⟨#[]⟩),(.string ⟨#[]⟩)]) 40 rfl Tryz.underlying34 iy rfl (by decide) (by omega) u5 Bj (⟨(dU l0 Bf).f0,(dU l0 Bf).f1,(dU l0 Bf).f2⟩ : S43) [.int .i64 ((dU l0 Bf).f0),.string ((dU l0 Bf).f1),.string ((dU l0 Bf).f2)] (fun k_=>k_ ≠ Bg) (fun _=>False) rfl rfl ?aP (fun _ hk=>hk.elim) ?aF ?aO ?aB ?aS ?aL ?_;(case aP=>exact jM _ _ _ (⟨(dU l0 Bf).f0,(dU l0 Bf).f1,(dU l0 Bf).f2⟩ : S43));(case aB=>exact hb_);(case aF=>exact (fun k_ hk=>Kd.iq (g:=Bg) (o:=.cells #[.int .i64 Bn,.string Bl,.string Bo] 43 (0,0)) (bk_ AZ.out) k_ hk));(case aO=>exact (kr_ Bz.out));(case aS=>exact (aM hb_));(case aL=>have:=EN.out;omega);intro EW w9 ho hb hg hat;rw [← DL.out] at ho;have Bu:=Aside0.mk (fD (g:=Bg) (o:=.cells #[.int .i64 Bn,.string Bl,.string Bo] 43 (0,0)) (bk_ AZ.out) hg (Kd.jc Bz.out (fun _ hk=>hk)));have Bv:=Aside0.mk (hb);have Bw:=Aside0.mk (ho);clear AZ;clear HB;clear Bz;have AZ:=Bu;have HB:=Bv;have DN:=Bw;clear Bu Bv Bw;clear ho hb hg hat));try go_wp2_with (first|((with_reducible refine fA (b:=.append) (xs:=#[.tmp 21,.tmp 26]) rfl ?_);at_builtin;refine Kd.iK k43 (w0:=w) w.heap.size rfl (.tmp 21) (.tmp 26) 34 43 (.agg #[(.int .i64 0),(.string ⟨#[]⟩),(.string ⟨#[]⟩)]) 40 rfl Tryz.underlying34 iy rfl (by decide) (by omega) u5 Bj (⟨(dU l0 Bf).f0,(dU l0 Bf).f1,(dU l0 Bf).f2⟩ : S43) [.int .i64 ((dU l0 Bf).f0),.string ((dU l0 Bf).f1),.string ((dU l0 Bf).f2)] (fun k_=>k_ ≠ Bg) (fun _=>False) rfl rfl ?aP (fun _ hk=>hk.elim) ?aF ?aO ?aB ?aS ?aL ?_;(case aP=>exact jM _ _ _ (⟨(dU l0 Bf).f0,(dU l0 Bf).f1,(dU l0 Bf).f2⟩ : S43));(case aB=>exact hb_);(case aF=>exact (fun k_ hk=>Kd.iq (g:=Bg) (o:=.cells #[.int .i64 Bn,.string Bl,.string Bo] 43 (0,0)) (bk_ AZ.out) k_ hk));(case aO=>exact (kr_ Bz.out));(case aS=>exact (aM hb_));(case aL=>have:=EN.out;omega);intro EW w9 ho hb hg hat;rw [← DL.out] at ho;have Bu:=Aside0.mk (fD (g:=Bg) (o:=.cells #[.int .i64 Bn,.string Bl,.string Bo] 43 (0,0)) (bk_ AZ.out) hg (Kd.jc Bz.out (fun _ hk=>hk)));have Bv:=Aside0.mk (hb);have Bw:=Aside0.mk (ho);clear AZ;clear HB;clear Bz;have AZ:=Bu;have HB:=Bv;have DN:=Bw;clear Bu Bv Bw;clear ho hb hg hat)))
       go_roundg k1
       case measure=>have:=DF.out;omega
       case rel=>exact ⟨(ET),(wrap64 (Bf + 1)),(by first|rfl|(simp;done)|(simp [*];done)),H',⟨by have:=DF.out;omega⟩,⟨by (with_reducible repeat (first|apply Kd.fG|apply Kd.fH|apply Kd.eD));exact DN.out⟩,⟨by (with_reducible repeat (first|apply ay|apply aG|apply aD));exact AZ.out⟩,⟨hb_⟩⟩
      ·rw [if_neg c7] at H
       exact absurd H (by simp)
     ·rw [if_neg c6] at H
      have c6b0 : (Op.bytesLess (((dU l0 Bf).f1).toList) Bl.toList) = false:=by simpa using c6
      clear c6
      by_cases c10 : Bj.length < 3518437208883
      ·rw [if_pos c10] at H
       have DR:=Aside0.mk c10
       clear c10
       obtain ⟨Co,CV⟩ : ∃ y_ : List (S43),y_ = (Bj ++ [(⟨Bn,Bl,Bo⟩ : S43)]):=⟨_,rfl⟩
       replace H : (if Bf ≤ (l0.length : Int) then ((some (l0.drop (Bf : Int).toNat : List (S43))).bind fun Br=>(if Co.length + Br.length < 3518437208883 then (some (Co ++ Br)) else (none))) else (none)) = some r:=by first|(rw [CV];with_reducible exact H)|(have Ci:=(Option.bind_some _ _).symm.trans H;rw [CV];with_reducible exact Ci)|(have Ci:=(Option.bind_some _ _).symm.trans H;with_reducible exact Ci)|with_reducible exact H|(rw [CV];exact H)|exact H
       have DT:=Aside0.mk CV
       clear CV
       have c11b0:=eq_true (of_decide_eq_true (by first|(with_reducible assumption)|assumption) : 0 ≤ Bf)
       by_cases c12 : Bf ≤ (l0.length : Int)
       ·rw [if_pos c12] at H
        have c12b0:=eq_true c12
        have c12b1 : decide (Bf ≤ (l0.length : Int)) = true:=decide_eq_true c12
        clear c12
        obtain ⟨Br,CW⟩ : ∃ y_ : List (S43),y_ = (l0.drop (Bf : Int).toNat):=⟨_,rfl⟩
        replace H : (if Co.length + Br.length < 3518437208883 then (some (Co ++ Br)) else (none)) = some r:=by first|(rw [CW];with_reducible exact H)|(have Ci:=(Option.bind_some _ _).symm.trans H;rw [CW];with_reducible exact Ci)|(have Ci:=(Option.bind_some _ _).symm.trans H;with_reducible exact Ci)|with_reducible exact H|(rw [CW];exact H)|exact H
        have Cz:=Aside0.mk CW
        clear CW
        by_cases c13 : Co.length + Br.length < 3518437208883
        ·rw [if_pos c13] at H
         have DU:=Aside0.mk c13
         clear c13
         obtain ⟨FW,CX⟩ : ∃ y_ : List (S43),y_ = (Co ++ Br):=⟨_,rfl⟩
         replace H : (some FW) = some r:=by first|(rw [CX];with_reducible exact H)|(have Ci:=(Option.bind_some _ _).symm.trans H;rw [CX];with_reducible exact Ci)|(have Ci:=(Option.bind_some _ _).symm.trans H;with_reducible exact Ci)|with_reducible exact H|(rw [CX];exact H)|exact H
         have DV:=Aside0.mk CX
         clear CX
         obtain rfl:=Option.some.inj H
         have Du : 0 ≤ (Bf : Int):=of_decide_eq_true (by first|(with_reducible assumption)|assumption)
         have Dv : Bf < (l0.length : Int):=of_decide_eq_true (by first|(with_reducible assumption)|assumption)
         obtain ⟨BG,e280,BP,BQ,BR⟩:=oC CF.out Bf Du Dv
         cases e280
         replace BP:=(HB.out.cell (World.block_lt_of_cell? w _ BP)).trans BP
         replace BQ:=(HB.out.cell (World.block_lt_of_cell? w _ BQ)).trans BQ
         replace BR:=(HB.out.cell (World.block_lt_of_cell? w _ BR)).trans BR
         replace Du:=eq_true Du
         replace Dv:=eq_true Dv
         have Fp : wr.cell? ⟨Bg,0,none⟩ = some (.int .i64 Bn):=(ah AZ.out 0).trans rfl
         have Fq : wr.cell? ⟨Bg,1,none⟩ = some (.string Bl):=(ah AZ.out 1).trans rfl
         have Fu : wr.cell? ⟨Bg,2,none⟩ = some (.string Bo):=(ah AZ.out 2).trans rfl
         have Fv:=ak AZ.out 0
         have Fw:=ak AZ.out 1
         have Fx:=ak AZ.out 2
         go_wp2_with (first|((with_reducible refine fA (b:=.append) (xs:=#[.tmp 30,.tmp 32]) rfl ?_);at_builtin;refine Kd.iK k43 (w0:=w) w.heap.size rfl (.tmp 30) (.tmp 32) 34 43 (.agg #[(.int .i64 0),(.string ⟨#[]⟩),(.string ⟨#[]⟩)]) 40 rfl Tryz.underlying34 iy rfl (by decide) (by omega) u5 Bj (⟨Bn,Bl,Bo⟩ : S43) [.int .i64 Bn,.string Bl,.string Bo] (fun k_=>k_ ≠ Bg) (fun _=>False) rfl rfl ?aP (fun _ hk=>hk.elim) ?aF ?aO ?aB ?aS ?aL ?_;(case aP=>exact jM _ _ _ (⟨Bn,Bl,Bo⟩ : S43));(case aB=>exact hb_);(case aF=>exact (fun k_ hk=>Kd.iq (g:=Bg) (o:=.cells #[.int .i64 Bn,.string Bl,.string Bo] 43 (0,0)) (bk_ AZ.out) k_ hk));(case aO=>exact (kr_ Bz.out));(case aS=>exact (aM hb_));(case aL=>have:=DR.out;omega);intro DW F6 ho hb hg hat;rw [← DT.out] at ho;have Bu:=Aside0.mk (fD (g:=Bg) (o:=.cells #[.int .i64 Bn,.string Bl,.string Bo] 43 (0,0)) (bk_ AZ.out) hg (Kd.jc Bz.out (fun _ hk=>hk)));have Bv:=Aside0.mk (hb);have Bw:=Aside0.mk (ho);clear AZ;clear HB;clear Bz;have AZ:=Bu;have HB:=Bv;have BS:=Bw;clear Bu Bv Bw;clear ho hb hg hat;have q16 : (Bf : Int) ≤ ((l0.length : Int) : Int):=of_decide_eq_true (by first|(with_reducible assumption)|assumption);obtain ⟨EX,Cj,_,Ck,_⟩:=info_parts iy;have Bp : l0.length ≤ c0:=Ew.out;have CY : Kd.C k43 _ (some BG) l0.length l0:=CF.out;have DX : (0 : Int) ≤ (Bf : Int):=of_decide_eq_true (by first|(with_reducible assumption)|assumption);have Cv:=iL (P:=Tryz.prog) 34 43 .i64 Tryz.underlying34 Cj 3 Ck (some BG) l0.length c0 Bf DX q16;have BU:=Kd.lF (m:=(Bf : Int).toNat) (c:=c0) CY (by omega) Bp;obtain ⟨EY,Ce⟩ : ∃ A1,A1 = (if c0 = (Bf : Int).toNat then (some BG) else ((some BG) : Option Addr).map (·.add ((Bf : Int).toNat * 3))):=⟨_,rfl⟩;obtain ⟨c16,hc16⟩ : ∃ c1,c1 = c0 - (Bf : Int).toNat:=⟨_,rfl⟩;have Cg : Br.length = l0.length - (Bf : Int).toNat:=(by rw [Cz.out,List.length_drop] <;> omega);rw [show (l0).drop (Bf : Int).toNat = Br from Cz.out.symm] at BU;replace BU : Kd.C k43 _ EY Br.length Br:=(by rw [Ce];exact BU);rw [← Cg,← Ce,← hc16] at Cv;have CZ:=Aside0.mk BU;have ED:=Aside0.mk (show Br.length ≤ c16 from by rw [Cg,hc16];exact Nat.sub_le_sub_right Bp _);clear BU CY Bp Cj Ck hc16;have EZ:=Aside0.mk Cg;have E5:=Aside0.mk Ce;clear Cg Ce;replace q16:=eq_true q16)|((with_reducible refine fA (b:=.append) (xs:=#[.tmp 34,.tmp 37]) rfl ?_);at_builtin;refine Kd.ig k43 (w0:=w) w.heap.size rfl (.tmp 34) (.tmp 37) 34 43 (.agg #[(.int .i64 0),(.string ⟨#[]⟩),(.string ⟨#[]⟩)]) 40 rfl Tryz.underlying34 iy rfl (by decide) (by omega) DW Co Br _ _ _ (fun k_=>k_ ≠ Bg) (fun _=>False) rfl rfl ?aO ?aR (fun _ _ h=>h) (fun _ h=>h.elim) ?aF ?aB ?aS ?aL ?_;(case aR=>repeat (first|exact (Kd.bO CZ.out HB.out)|(with_reducible refine Kd.bD ?_ _)|(with_reducible refine Kd.bR ?_ _)|(with_reducible refine Kd.bZ ?_)));(case aB=>exact hb_);(case aF=>exact (fun k_ hk=>Kd.iq (g:=Bg) (o:=.cells #[.int .i64 Bn,.string Bl,.string Bo] 43 (0,0)) (bk_ AZ.out) k_ hk));(case aO=>exact (kr_ BS.out));(case aS=>exact (aM hb_));(case aL=>have:=DU.out;omega);intro E8 F7 ho hb hg hat;rw [← DV.out] at ho;have Bu:=Aside0.mk (fD (g:=Bg) (o:=.cells #[.int .i64 Bn,.string Bl,.string Bo] 43 (0,0)) (bk_ AZ.out) hg (Kd.jc BS.out (fun _ hk=>hk)));have Bv:=Aside0.mk (hb);have Bw:=Aside0.mk (ho);clear AZ;clear HB;clear BS;have AZ:=Bu;have HB:=Bv;have DY:=Bw;clear Bu Bv Bw;clear ho hb hg hat))
         repeat (go_quiet (first|((with_reducible refine fA (b:=.append) (xs:=#[.tmp 30,.tmp 32]) rfl ?_);at_builtin;refine Kd.iK k43 (w0:=w) w.heap.size rfl (.tmp 30) (.tmp 32) 34 43 (.agg #[(.int .i64 0),(.string ⟨#[]⟩),(.string ⟨#[]⟩)]) 40 rfl Tryz.underlying34 iy rfl (by decide) (by omega) u5 Bj (⟨Bn,Bl,Bo⟩ : S43) [.int .i64 Bn,.string Bl,.string Bo] (fun k_=>k_ ≠ Bg) (fun _=>False) rfl rfl ?aP (fun _ hk=>hk.elim) ?aF ?aO ?aB ?aS ?aL ?_;(case aP=>exact jM _ _ _ (⟨Bn,Bl,Bo⟩ : S43));(case aB=>exact hb_);(case aF=>exact (fun k_ hk=>Kd.iq (g:=Bg) (o:=.cells #[.int .i64 Bn,.string Bl,.string Bo] 43 (0,0)) (bk_ AZ.out) k_ hk));(case aO=>exact (kr_ Bz.out));(case aS=>exact (aM hb_));(case aL=>have:=DR.out;omega);intro DW F6 ho hb hg hat;rw [← DT.out] at ho;have Bu:=Aside0.mk (fD (g:=Bg) (o:=.cells #[.int .i64 Bn,.string Bl,.string Bo] 43 (0,0)) (bk_ AZ.out) hg (Kd.jc Bz.out (fun _ hk=>hk)));have Bv:=Aside0.mk (hb);have Bw:=Aside0.mk (ho);clear AZ;clear HB;clear Bz;have AZ:=Bu;have HB:=Bv;have BS:=Bw;clear Bu Bv Bw;clear ho hb hg hat;have q16 : (Bf : Int) ≤ ((l0.length : Int) : Int):=of_decide_eq_true (by first|(with_reducible assumption)|assumption);obtain ⟨EX,Cj,_,Ck,_⟩:=info_parts iy;have Bp : l0.length ≤ c0:=Ew.out;have CY : Kd.C k43 _ (some BG) l0.length l0:=CF.out;have DX : (0 : Int) ≤ (Bf : Int):=of_decide_eq_true (by first|(with_reducible assumption)|assumption);have Cv:=iL (P:=Tryz.prog) 34 43 .i64 Tryz.underlying34 Cj 3 Ck (some BG) l0.length c0 Bf DX q16;have BU:=Kd.lF (m:=(Bf : Int).toNat) (c:=c0) CY (by omega) Bp;obtain ⟨EY,Ce⟩ : ∃ A1,A1 = (if c0 = (Bf : Int).toNat then (some BG) else ((some BG) : Option Addr).map (·.add ((Bf : Int).toNat * 3))):=⟨_,rfl⟩;obtain ⟨c16,hc16⟩ : ∃ c1,c1 = c0 - (Bf : Int).toNat:=⟨_,rfl⟩;have Cg : Br.length = l0.length - (Bf : Int).toNat:=(by rw [Cz.out,List.length_drop] <;> omega);rw [show (l0).drop (Bf : Int).toNat = Br from Cz.out.symm] at BU;replace BU : Kd.C k43 _ EY Br.length Br:=(by rw [Ce];exact BU);rw [← Cg,← Ce,← hc16] at Cv;have CZ:=Aside0.mk BU;have ED:=Aside0.mk (show Br.length ≤ c16 from by rw [Cg,hc16];exact Nat.sub_le_sub_right Bp _);clear BU CY Bp Cj Ck hc16;have EZ:=Aside0.mk Cg;have E5:=Aside0.mk Ce;clear Cg Ce;replace q16:=eq_true q16)|((with_reducible refine fA (b:=.append) (xs:=#[.tmp 34,.tmp 37]) rfl ?_);at_builtin;refine Kd.ig k43 (w0:=w) w.heap.size rfl (.tmp 34) (.tmp 37) 34 43 (.agg #[(.int .i64 0),(.string ⟨#[]⟩),(.string ⟨#[]⟩)]) 40 rfl Tryz.underlying34 iy rfl (by decide) (by omega) DW Co Br _ _ _ (fun k_=>k_ ≠ Bg) (fun _=>False) rfl rfl ?aO ?aR (fun _ _ h=>h) (fun _ h=>h.elim) ?aF ?aB ?aS ?aL ?_;(case aR=>repeat (first|exact (Kd.bO CZ.out HB.out)|(with_reducible refine Kd.bD ?_ _)|(with_reducible refine Kd.bR ?_ _)|(with_reducible refine Kd.bZ ?_)));(case aB=>exact hb_);(case aF=>exact (fun k_ hk=>Kd.iq (g:=Bg) (o:=.cells #[.int .i64 Bn,.string Bl,.string Bo] 43 (0,0)) (bk_ AZ.out) k_ hk));(case aO=>exact (kr_ BS.out));(case aS=>exact (aM hb_));(case aL=>have:=DU.out;omega);intro E8 F7 ho hb hg hat;rw [← DV.out] at ho;have Bu:=Aside0.mk (fD (g:=Bg) (o:=.cells #[.int .i64 Bn,.string Bl,.string Bo] 43 (0,0)) (bk_ AZ.out) hg (Kd.jc BS.out (fun _ hk=>hk)));have Bv:=Aside0.mk (hb);have Bw:=Aside0.mk (ho);clear AZ;clear HB;clear BS;have AZ:=Bu;have HB:=Bv;have DY:=Bw;clear Bu Bv Bw;clear ho hb hg hat));try go_wp2_with (first|((with_reducible refine fA (b:=.append) (xs:=#[.tmp 30,.tmp 32]) rfl ?_);at_builtin;refine Kd.iK k43 (w0:=w) w.heap.size rfl (.tmp 30) (.tmp 32) 34 43 (.agg #[(.int .i64 0),(.string ⟨#[]⟩),(.string ⟨#[]⟩)]) 40 rfl Tryz.underlying34 iy rfl (by decide) (by omega) u5 Bj (⟨Bn,Bl,Bo⟩ : S43) [.int .i64 Bn,.string Bl,.string Bo] (fun k_=>k_ ≠ Bg) (fun _=>False) rfl rfl ?aP (fun _ hk=>hk.elim) ?aF ?aO ?aB ?aS ?aL ?_;(case aP=>exact jM _ _ _ (⟨Bn,Bl,Bo⟩ : S43));(case aB=>exact hb_);(case aF=>exact (fun k_ hk=>Kd.iq (g:=Bg) (o:=.cells #[.int .i64 Bn,.string Bl,.string Bo] 43 (0,0)) (bk_ AZ.out) k_ hk));(case aO=>exact (kr_ Bz.out));(case aS=>exact (aM hb_));(case aL=>have:=DR.out;omega);intro DW F6 ho hb hg hat;rw [← DT.out] at ho;have Bu:=Aside0.mk (fD (g:=Bg) (o:=.cells #[.int .i64 Bn,.string Bl,.string Bo] 43 (0,0)) (bk_ AZ.out) hg (Kd.jc Bz.out (fun _ hk=>hk)));have Bv:=Aside0.mk (hb);have Bw:=Aside0.mk (ho);clear AZ;clear HB;clear Bz;have AZ:=Bu;have HB:=Bv;have BS:=Bw;clear Bu Bv Bw;clear ho hb hg hat;have q16 : (Bf : Int) ≤ ((l0.length : Int) : Int):=of_decide_eq_true (by first|(with_reducible assumption)|assumption);obtain ⟨EX,Cj,_,Ck,_⟩:=info_parts iy;have Bp : l0.length ≤ c0:=Ew.out;have CY : Kd.C k43 _ (some BG) l0.length l0:=CF.out;have DX : (0 : Int) ≤ (Bf : Int):=of_decide_eq_true (by first|(with_reducible assumption)|assumption);have Cv:=iL (P:=Tryz.prog) 34 43 .i64 Tryz.underlying34 Cj 3 Ck (some BG) l0.length c0 Bf DX q16;have BU:=Kd.lF (m:=(Bf : Int).toNat) (c:=c0) CY (by omega) Bp;obtain ⟨EY,Ce⟩ : ∃ A1,A1 = (if c0 = (Bf : Int).toNat then (some BG) else ((some BG) : Option Addr).map (·.add ((Bf : Int).toNat * 3))):=⟨_,rfl⟩;obtain ⟨c16,hc16⟩ : ∃ c1,c1 = c0 - (Bf : Int).toNat:=⟨_,rfl⟩;have Cg : Br.length = l0.length - (Bf : Int).toNat:=(by rw [Cz.out,List.length_drop] <;> omega);rw [show (l0).drop (Bf : Int).toNat = Br from Cz.out.symm] at BU;replace BU : Kd.C k43 _ EY Br.length Br:=(by rw [Ce];exact BU);rw [← Cg,← Ce,← hc16] at Cv;have CZ:=Aside0.mk BU;have ED:=Aside0.mk (show Br.length ≤ c16 from by rw [Cg,hc16];exact Nat.sub_le_sub_right Bp _);clear BU CY Bp Cj Ck hc16;have EZ:=Aside0.mk Cg;have E5:=Aside0.mk Ce;clear Cg Ce;replace q16:=eq_true q16)|((with_reducible refine fA (b:=.append) (xs:=#[.tmp 34,.tmp 37]) rfl ?_);at_builtin;refine Kd.ig k43 (w0:=w) w.heap.size rfl (.tmp 34) (.tmp 37) 34 43 (.agg #[(.int .i64 0),(.string ⟨#[]⟩),(.string ⟨#[]⟩)]) 40 rfl Tryz.underlying34 iy rfl (by decide) (by omega) DW Co Br _ _ _ (fun k_=>k_ ≠ Bg) (fun _=>False) rfl rfl ?aO ?aR (fun _ _ h=>h) (fun _ h=>h.elim) ?aF ?aB ?aS ?aL ?_;(case aR=>repeat (first|exact (Kd.bO CZ.out HB.out)|(with_reducible refine Kd.bD ?_ _)|(with_reducible refine Kd.bR ?_ _)|(with_reducible refine Kd.bZ ?_)));(case aB=>exact hb_);(case aF=>exact (fun k_ hk=>Kd.iq (g:=Bg) (o:=.cells #[.int .i64 Bn,.string Bl,.string Bo] 43 (0,0)) (bk_ AZ.out) k_ hk));(case aO=>exact (kr_ BS.out));(case aS=>exact (aM hb_));(case aL=>have:=DU.out;omega);intro E8 F7 ho hb hg hat;rw [← DV.out] at ho;have Bu:=Aside0.mk (fD (g:=Bg) (o:=.cells #[.int .i64 Bn,.string Bl,.string Bo] 43 (0,0)) (bk_ AZ.out) hg (Kd.jc BS.out (fun _ hk=>hk)));have Bv:=Aside0.mk (hb);have Bw:=Aside0.mk (ho);clear AZ;clear HB;clear BS;have AZ:=Bu;have HB:=Bv;have DY:=Bw;clear Bu Bv Bw;clear ho hb hg hat)))
         go_ret
         exact ⟨_,by first|rfl|(simp [aY,aZ] <;> rfl)|(simp [*,aY,aZ] <;> rfl),by (with_reducible repeat (first|apply Kd.fG|apply Kd.fH|apply Kd.eD));exact Kd.gW DY.out (fun _ hk=>trivial),hb_⟩
        ·rw [if_neg c13] at H
         exact absurd H (by simp)
       ·rw [if_neg c12] at H
        exact absurd H (by simp)
      ·rw [if_neg c10] at H
       exact absurd H (by simp)
    ·rw [if_neg c5] at H
     exact absurd H (by simp)
   ·rw [if_neg c4] at H
    have c4b0 : decide (Bf < (l0.length : Int)) = false:=decide_eq_false c4
    clear c4
    by_cases c18 : Bj.length < 3518437208883
    ·rw [if_pos c18] at H
     have DZ:=Aside0.mk c18
     clear c18
     obtain ⟨Cq,C8⟩ : ∃ y_ : List (S43),y_ = (Bj ++ [(⟨Bn,Bl,Bo⟩ : S43)]):=⟨_,rfl⟩
     replace H : (if 0 ≤ Bf then (if Bf ≤ (l0.length : Int) then ((some (l0.drop (Bf : Int).toNat : List (S43))).bind fun Bt=>(if Cq.length + Bt.length < 3518437208883 then (some (Cq ++ Bt)) else (none))) else (none)) else (none)) = some r:=by first|(rw [C8];with_reducible exact H)|(have Ci:=(Option.bind_some _ _).symm.trans H;rw [C8];with_reducible exact Ci)|(have Ci:=(Option.bind_some _ _).symm.trans H;with_reducible exact Ci)|with_reducible exact H|(rw [C8];exact H)|exact H
     have D5:=Aside0.mk C8
     clear C8
     by_cases c19 : 0 ≤ Bf
     ·rw [if_pos c19] at H
      have c19b0:=eq_true c19
      have c19b1 : decide (0 ≤ Bf) = true:=decide_eq_true c19
      clear c19
      by_cases c20 : Bf ≤ (l0.length : Int)
      ·rw [if_pos c20] at H
       have c20b0:=eq_true c20
       have c20b1 : decide (Bf ≤ (l0.length : Int)) = true:=decide_eq_true c20
       clear c20
       obtain ⟨Bt,C9⟩ : ∃ y_ : List (S43),y_ = (l0.drop (Bf : Int).toNat):=⟨_,rfl⟩
       replace H : (if Cq.length + Bt.length < 3518437208883 then (some (Cq ++ Bt)) else (none)) = some r:=by first|(rw [C9];with_reducible exact H)|(have Ci:=(Option.bind_some _ _).symm.trans H;rw [C9];with_reducible exact Ci)|(have Ci:=(Option.bind_some _ _).symm.trans H;with_reducible exact Ci)|with_reducible exact H|(rw [C9];exact H)|exact H
       have CB:=Aside0.mk C9
       clear C9
       by_cases c21 : Cq.length + Bt.length < 3518437208883
       ·rw [if_pos c21] at H
        have D6:=Aside0.mk c21
        clear c21
        obtain ⟨FX,Da⟩ : ∃ y_ : List (S43),y_ = (Cq ++ Bt):=⟨_,rfl⟩
        replace H : (some FX) = some r:=by first|(rw [Da];with_reducible exact H)|(have Ci:=(Option.bind_some _ _).symm.trans H;rw [Da];with_reducible exact Ci)|(have Ci:=(Option.bind_some _ _).symm.trans H;with_reducible exact Ci)|with_reducible exact H|(rw [Da];exact H)|exact H
        have D7:=Aside0.mk Da
        clear Da
        obtain rfl:=Option.some.inj H
        have Fy : wr.cell? ⟨Bg,0,none⟩ = some (.int .i64 Bn):=(ah AZ.out 0).trans rfl
        have Fz : wr.cell? ⟨Bg,1,none⟩ = some (.string Bl):=(ah AZ.out 1).trans rfl
        have FB : wr.cell? ⟨Bg,2,none⟩ = some (.string Bo):=(ah AZ.out 2).trans rfl
        have FC:=ak AZ.out 0
        have FD:=ak AZ.out 1
        have FE:=ak AZ.out 2
        go_wp2_with (first|((with_reducible refine fA (b:=.append) (xs:=#[.tmp 30,.tmp 32]) rfl ?_);at_builtin;refine Kd.iK k43 (w0:=w) w.heap.size rfl (.tmp 30) (.tmp 32) 34 43 (.agg #[(.int .i64 0),(.string ⟨#[]⟩),(.string ⟨#[]⟩)]) 40 rfl Tryz.underlying34 iy rfl (by decide) (by omega) u5 Bj (⟨Bn,Bl,Bo⟩ : S43) [.int .i64 Bn,.string Bl,.string Bo] (fun k_=>k_ ≠ Bg) (fun _=>False) rfl rfl ?aP (fun _ hk=>hk.elim) ?aF ?aO ?aB ?aS ?aL ?_;(case aP=>exact jM _ _ _ (⟨Bn,Bl,Bo⟩ : S43));(case aB=>exact hb_);(case aF=>exact (fun k_ hk=>Kd.iq (g:=Bg) (o:=.cells #[.int .i64 Bn,.string Bl,.string Bo] 43 (0,0)) (bk_ AZ.out) k_ hk));(case aO=>exact (kr_ Bz.out));(case aS=>exact (aM hb_));(case aL=>have:=DZ.out;omega);intro D8 F8 ho hb hg hat;rw [← D5.out] at ho;have Bu:=Aside0.mk (fD (g:=Bg) (o:=.cells #[.int .i64 Bn,.string Bl,.string Bo] 43 (0,0)) (bk_ AZ.out) hg (Kd.jc Bz.out (fun _ hk=>hk)));have Bv:=Aside0.mk (hb);have Bw:=Aside0.mk (ho);clear AZ;clear HB;clear Bz;have AZ:=Bu;have HB:=Bv;have BX:=Bw;clear Bu Bv Bw;clear ho hb hg hat;have q24 : (Bf : Int) ≤ ((l0.length : Int) : Int):=of_decide_eq_true (by first|(with_reducible assumption)|assumption);obtain ⟨E9,Cm,_,Cn,_⟩:=info_parts iy;have Bq : l0.length ≤ c0:=Ew.out;have Db : Kd.C k43 _ A0 l0.length l0:=CF.out;have D9 : (0 : Int) ≤ (Bf : Int):=of_decide_eq_true (by first|(with_reducible assumption)|assumption);have Cw:=iL (P:=Tryz.prog) 34 43 .i64 Tryz.underlying34 Cm 3 Cn A0 l0.length c0 Bf D9 q24;have BZ:=Kd.lF (m:=(Bf : Int).toNat) (c:=c0) Db (by omega) Bq;obtain ⟨Fa,Ch⟩ : ∃ A1,A1 = (if c0 = (Bf : Int).toNat then A0 else (A0 : Option Addr).map (·.add ((Bf : Int).toNat * 3))):=⟨_,rfl⟩;obtain ⟨c24,hc24⟩ : ∃ c1,c1 = c0 - (Bf : Int).toNat:=⟨_,rfl⟩;have hy24 : Bt.length = l0.length - (Bf : Int).toNat:=(by rw [CB.out,List.length_drop] <;> omega);rw [show (l0).drop (Bf : Int).toNat = Bt from CB.out.symm] at BZ;replace BZ : Kd.C k43 _ Fa Bt.length Bt:=(by rw [Ch];exact BZ);rw [← hy24,← Ch,← hc24] at Cw;have Dc:=Aside0.mk BZ;have EF:=Aside0.mk (show Bt.length ≤ c24 from by rw [hy24,hc24];exact Nat.sub_le_sub_right Bq _);clear BZ Db Bq Cm Cn hc24;have Fb:=Aside0.mk hy24;have Fe:=Aside0.mk Ch;clear hy24 Ch;replace q24:=eq_true q24)|((with_reducible refine fA (b:=.append) (xs:=#[.tmp 34,.tmp 37]) rfl ?_);at_builtin;refine Kd.ig k43 (w0:=w) w.heap.size rfl (.tmp 34) (.tmp 37) 34 43 (.agg #[(.int .i64 0),(.string ⟨#[]⟩),(.string ⟨#[]⟩)]) 40 rfl Tryz.underlying34 iy rfl (by decide) (by omega) D8 Cq Bt _ _ _ (fun k_=>k_ ≠ Bg) (fun _=>False) rfl rfl ?aO ?aR (fun _ _ h=>h) (fun _ h=>h.elim) ?aF ?aB ?aS ?aL ?_;(case aR=>repeat (first|exact (Kd.bO Dc.out HB.out)|(with_reducible refine Kd.bD ?_ _)|(with_reducible refine Kd.bR ?_ _)|(with_reducible refine Kd.bZ ?_)));(case aB=>exact hb_);(case aF=>exact (fun k_ hk=>Kd.iq (g:=Bg) (o:=.cells #[.int .i64 Bn,.string Bl,.string Bo] 43 (0,0)) (bk_ AZ.out) k_ hk));(case aO=>exact (kr_ BX.out));(case aS=>exact (aM hb_));(case aL=>have:=D6.out;omega);intro Fg F9 ho hb hg hat;rw [← D7.out] at ho;have Bu:=Aside0.mk (fD (g:=Bg) (o:=.cells #[.int .i64 Bn,.string Bl,.string Bo] 43 (0,0)) (bk_ AZ.out) hg (Kd.jc BX.out (fun _ hk=>hk)));have Bv:=Aside0.mk (hb);have Bw:=Aside0.mk (ho);clear AZ;clear HB;clear BX;have AZ:=Bu;have HB:=Bv;have Ea:=Bw;clear Bu Bv Bw;clear ho hb hg hat))
        repeat (go_quiet (first|((with_reducible refine fA (b:=.append) (xs:=#[.tmp 30,.tmp 32]) rfl ?_);at_builtin;refine Kd.iK k43 (w0:=w) w.heap.size rfl (.tmp 30) (.tmp 32) 34 43 (.agg #[(.int .i64 0),(.string ⟨#[]⟩),(.string ⟨#[]⟩)]) 40 rfl Tryz.underlying34 iy rfl (by decide) (by omega) u5 Bj (⟨Bn,Bl,Bo⟩ : S43) [.int .i64 Bn,.string Bl,.string Bo] (fun k_=>k_ ≠ Bg) (fun _=>False) rfl rfl ?aP (fun _ hk=>hk.elim) ?aF ?aO ?aB ?aS ?aL ?_;(case aP=>exact jM _ _ _ (⟨Bn,Bl,Bo⟩ : S43));(case aB=>exact hb_);(case aF=>exact (fun k_ hk=>Kd.iq (g:=Bg) (o:=.cells #[.int .i64 Bn,.string Bl,.string Bo] 43 (0,0)) (bk_ AZ.out) k_ hk));(case aO=>exact (kr_ Bz.out));(case aS=>exact (aM hb_));(case aL=>have:=DZ.out;omega);intro D8 F8 ho hb hg hat;rw [← D5.out] at ho;have Bu:=Aside0.mk (fD (g:=Bg) (o:=.cells #[.int .i64 Bn,.string Bl,.string Bo] 43 (0,0)) (bk_ AZ.out) hg (Kd.jc Bz.out (fun _ hk=>hk)));have Bv:=Aside0.mk (hb);have Bw:=Aside0.mk (ho);clear AZ;clear HB;clear Bz;have AZ:=Bu;have HB:=Bv;have BX:=Bw;clear Bu Bv Bw;clear ho hb hg hat;have q24 : (Bf : Int) ≤ ((l0.length : Int) : Int):=of_decide_eq_true (by first|(with_reducible assumption)|assumption);obtain ⟨E9,Cm,_,Cn,_⟩:=info_parts iy;have Bq : l0.length ≤ c0:=Ew.out;have Db : Kd.C k43 _ A0 l0.length l0:=CF.out;have D9 : (0 : Int) ≤ (Bf : Int):=of_decide_eq_true (by first|(with_reducible assumption)|assumption);have Cw:=iL (P:=Tryz.prog) 34 43 .i64 Tryz.underlying34 Cm 3 Cn A0 l0.length c0 Bf D9 q24;have BZ:=Kd.lF (m:=(Bf : Int).toNat) (c:=c0) Db (by omega) Bq;obtain ⟨Fa,Ch⟩ : ∃ A1,A1 = (if c0 = (Bf : Int).toNat then A0 else (A0 : Option Addr).map (·.add ((Bf : Int).toNat * 3))):=⟨_,rfl⟩;obtain ⟨c24,hc24⟩ : ∃ c1,c1 = c0 - (Bf : Int).toNat:=⟨_,rfl⟩;have hy24 : Bt.length = l0.length - (Bf : Int).toNat:=(by rw [CB.out,List.length_drop] <;> omega);rw [show (l0).drop (Bf : Int).toNat = Bt from CB.out.symm] at BZ;replace BZ : Kd.C k43 _ Fa Bt.length Bt:=(by rw [Ch];exact BZ);rw [← hy24,← Ch,← hc24] at Cw;have Dc:=Aside0.mk BZ;have EF:=Aside0.mk (show Bt.length ≤ c24 from by rw [hy24,hc24];exact Nat.sub_le_sub_right Bq _);clear BZ Db Bq Cm Cn hc24;have Fb:=Aside0.mk hy24;have Fe:=Aside0.mk Ch;clear hy24 Ch;replace q24:=eq_true q24)|((with_reducible refine fA (b:=.append) (xs:=#[.tmp 34,.tmp 37]) rfl ?_);at_builtin;refine Kd.ig k43 (w0:=w) w.heap.size rfl (.tmp 34) (.tmp 37) 34 43 (.agg #[(.int .i64 0),(.string ⟨#[]⟩),(.string ⟨#[]⟩)]) 40 rfl Tryz.underlying34 iy rfl (by decide) (by omega) D8 Cq Bt _ _ _ (fun k_=>k_ ≠ Bg) (fun _=>False) rfl rfl ?aO ?aR (fun _ _ h=>h) (fun _ h=>h.elim) ?aF ?aB ?aS ?aL ?_;(case aR=>repeat (first|exact (Kd.bO Dc.out HB.out)|(with_reducible refine Kd.bD ?_ _)|(with_reducible refine Kd.bR ?_ _)|(with_reducible refine Kd.bZ ?_)));(case aB=>exact hb_);(case aF=>exact (fun k_ hk=>Kd.iq (g:=Bg) (o:=.cells #[.int .i64 Bn,.string Bl,.string Bo] 43 (0,0)) (bk_ AZ.out) k_ hk));(case aO=>exact (kr_ BX.out));(case aS=>exact (aM hb_));(case aL=>have:=D6.out;omega);intro Fg F9 ho hb hg hat;rw [← D7.out] at ho;have Bu:=Aside0.mk (fD (g:=Bg) (o:=.cells #[.int .i64 Bn,.string Bl,.string Bo] 43 (0,0)) (bk_ AZ.out) hg (Kd.jc BX.out (fun _ hk=>hk)));have Bv:=Aside0.mk (hb);have Bw:=Aside0.mk (ho);clear AZ;clear HB;clear BX;have AZ:=Bu;have HB:=Bv;have Ea:=Bw;clear Bu Bv Bw;clear ho hb hg hat));try go_wp2_with (first|((with_reducible refine fA (b:=.append) (xs:=#[.tmp 30,.tmp 32]) rfl ?_);at_builtin;refine Kd.iK k43 (w0:=w) w.heap.size rfl (.tmp 30) (.tmp 32) 34 43 (.agg #[(.int .i64 0),(.string ⟨#[]⟩),(.string ⟨#[]⟩)]) 40 rfl Tryz.underlying34 iy rfl (by decide) (by omega) u5 Bj (⟨Bn,Bl,Bo⟩ : S43) [.int .i64 Bn,.string Bl,.string Bo] (fun k_=>k_ ≠ Bg) (fun _=>False) rfl rfl ?aP (fun _ hk=>hk.elim) ?aF ?aO ?aB ?aS ?aL ?_;(case aP=>exact jM _ _ _ (⟨Bn,Bl,Bo⟩ : S43));(case aB=>exact hb_);(case aF=>exact (fun k_ hk=>Kd.iq (g:=Bg) (o:=.cells #[.int .i64 Bn,.string Bl,.string Bo] 43 (0,0)) (bk_ AZ.out) k_ hk));(case aO=>exact (kr_ Bz.out));(case aS=>exact (aM hb_));(case aL=>have:=DZ.out;omega);intro D8 F8 ho hb hg hat;rw [← D5.out] at ho;have Bu:=Aside0.mk (fD (g:=Bg) (o:=.cells #[.int .i64 Bn,.string Bl,.string Bo] 43 (0,0)) (bk_ AZ.out) hg (Kd.jc Bz.out (fun _ hk=>hk)));have Bv:=Aside0.mk (hb);have Bw:=Aside0.mk (ho);clear AZ;clear HB;clear Bz;have AZ:=Bu;have HB:=Bv;have BX:=Bw;clear Bu Bv Bw;clear ho hb hg hat;have q24 : (Bf : Int) ≤ ((l0.length : Int) : Int):=of_decide_eq_true (by first|(with_reducible assumption)|assumption);obtain ⟨E9,Cm,_,Cn,_⟩:=info_parts iy;have Bq : l0.length ≤ c0:=Ew.out;have Db : Kd.C k43 _ A0 l0.length l0:=CF.out;have D9 : (0 : Int) ≤ (Bf : Int):=of_decide_eq_true (by first|(with_reducible assumption)|assumption);have Cw:=iL (P:=Tryz.prog) 34 43 .i64 Tryz.underlying34 Cm 3 Cn A0 l0.length c0 Bf D9 q24;have BZ:=Kd.lF (m:=(Bf : Int).toNat) (c:=c0) Db (by omega) Bq;obtain ⟨Fa,Ch⟩ : ∃ A1,A1 = (if c0 = (Bf : Int).toNat then A0 else (A0 : Option Addr).map (·.add ((Bf : Int).toNat * 3))):=⟨_,rfl⟩;obtain ⟨c24,hc24⟩ : ∃ c1,c1 = c0 - (Bf : Int).toNat:=⟨_,rfl⟩;have hy24 : Bt.length = l0.length - (Bf : Int).toNat:=(by rw [CB.out,List.length_drop] <;> omega);rw [show (l0).drop (Bf : Int).toNat = Bt from CB.out.symm] at BZ;replace BZ : Kd.C k43 _ Fa Bt.length Bt:=(by rw [Ch];exact BZ);rw [← hy24,← Ch,← hc24] at Cw;have Dc:=Aside0.mk BZ;have EF:=Aside0.mk (show Bt.length ≤ c24 from by rw [hy24,hc24];exact Nat.sub_le_sub_right Bq _);clear BZ Db Bq Cm Cn hc24;have Fb:=Aside0.mk hy24;have Fe:=Aside0.mk Ch;clear hy24 Ch;replace q24:=eq_true q24)|((with_reducible refine fA (b:=.append) (xs:=#[.tmp 34,.tmp 37]) rfl ?_);at_builtin;refine Kd.ig k43 (w0:=w) w.heap.size rfl (.tmp 34) (.tmp 37) 34 43 (.agg #[(.int .i64 0),(.string ⟨#[]⟩),(.string ⟨#[]⟩)]) 40 rfl Tryz.underlying34 iy rfl (by decide) (by omega) D8 Cq Bt _ _ _ (fun k_=>k_ ≠ Bg) (fun _=>False) rfl rfl ?aO ?aR (fun _ _ h=>h) (fun _ h=>h.elim) ?aF ?aB ?aS ?aL ?_;(case aR=>repeat (first|exact (Kd.bO Dc.out HB.out)|(with_reducible refine Kd.bD ?_ _)|(with_reducible refine Kd.bR ?_ _)|(with_reducible refine Kd.bZ ?_)));(case aB=>exact hb_);(case aF=>exact (fun k_ hk=>Kd.iq (g:=Bg) (o:=.cells #[.int .i64 Bn,.string Bl,.string Bo] 43 (0,0)) (bk_ AZ.out) k_ hk));(case aO=>exact (kr_ BX.out));(case aS=>exact (aM hb_));(case aL=>have:=D6.out;omega);intro Fg F9 ho hb hg hat;rw [← D7.out] at ho;have Bu:=Aside0.mk (fD (g:=Bg) (o:=.cells #[.int .i64 Bn,.string Bl,.string Bo] 43 (0,0)) (bk_ AZ.out) hg (Kd.jc BX.out (fun _ hk=>hk)));have Bv:=Aside0.mk (hb);have Bw:=Aside0.mk (ho);clear AZ;clear HB;clear BX;have AZ:=Bu;have HB:=Bv;have Ea:=Bw;clear Bu Bv Bw;clear ho hb hg hat)))
        go_ret
        exact ⟨_,by first|rfl|(simp [aY,aZ] <;> rfl)|(simp [*,aY,aZ] <;> rfl),by (with_reducible repeat (first|apply Kd.fG|apply Kd.fH|apply Kd.eD));exact Kd.gW Ea.out (fun _ hk=>trivial),hb_⟩
       ·rw [if_neg c21] at H
        exact absurd H (by simp)
      ·rw [if_neg c20] at H
       exact absurd H (by simp)
     ·rw [if_neg c19] at H
      exact absurd H (by simp)
    ·rw [if_neg c18] at H
     exact absurd H (by simp)
def bK.l0 : Nat → List ByteArray → List ByteArray → Int → Option (Bool)
 | 0,_,_,_=>none
 | k + 1,x0,x1,x5=>if x5 < (x0.length : Int) then (if 0 ≤ x5 then (if x5 < (x1.length : Int) then (if (iO ByteArray.empty x0 x5).toList = (iO ByteArray.empty x1 x5).toList then (bK.l0 k x0 x1 (wrap64 (x5 + 1))) else (some false)) else (none)) else (none)) else (some true)
def bK.f (k : Nat) (l0 : List ByteArray) (l1 : List ByteArray) : Option (Bool):=if (l0.length : Int) = (l1.length : Int) then (bK.l0 k l0 l1 0) else (some false)
theorem bK.dQ : ∀ k,(∀ y0 y1 y2,LeO (bK.l0 k y0 y1 y2) (bK.l0 (k + 1) y0 y1 y2))
 | 0=>fun _ _ _ r h=>by simp [bK.l0] at h
 | k + 1=>by
  have Ct:=bK.dQ k
  ·intro y0 y1 y2
   unfold bK.l0
   repeat' first
   | (with_reducible exact Ct _ _ _)
   | (with_reducible exact LeO.refl _)
   | (with_reducible exact LeO.none _)
   | (with_reducible refine LeO.ite ?_ ?_)
   | (with_reducible refine LeO.bind ?_ (fun _=>?_))
   | exact Ct _ _ _
   | exact LeO.none _
   | refine LeO.ite ?_ ?_
   | refine LeO.bind ?_ (fun _=>?_)
theorem bK.mono : ∀ a0 a1 k,LeO (bK.f k a0 a1) (bK.f (k + 1) a0 a1):=by
 intro a0 a1 k
 have Ct:=bK.dQ k
 unfold bK.f
 repeat' first
   | (with_reducible exact Ct _ _ _)
   | (with_reducible exact LeO.refl _)
   | (with_reducible exact LeO.none _)
   | (with_reducible refine LeO.ite ?_ ?_)
   | (with_reducible refine LeO.bind ?_ (fun _=>?_))
   | exact Ct _ _ _
   | exact LeO.none _
   | refine LeO.ite ?_ ?_
   | refine LeO.bind ?_ (fun _=>?_)
set_option maxHeartbeats 8000000 in
set_option maxRecDepth 100000 in
theorem bK.calls (k : Nat) (A0 : Option Addr) (c0 : Nat) (l0 : List ByteArray) (A1 : Option Addr) (c1 : Nat) (l1 : List ByteArray) (r : Bool) (w : World) (hr0 : Kd.C Kd.string w A0 l0.length l0) (hc0 : l0.length ≤ c0) (hr1 : Kd.C Kd.string w A1 l1.length l1) (hc1 : l1.length ≤ c1) (h : bK.f k l0 l1 = some r) :
  Calls Tryz.prog 28 #[.slice A0 l0.length c0,.slice A1 l1.length c1] w fun e w'=>e = .returned (.bool r) ∧ Drawn0 w w':=by
 have CF:=Aside0.mk hr0
 have Ew:=Aside0.mk hc0
 clear hr0 hc0
 have HR1:=Aside0.mk hr1
 have Ga:=Aside0.mk hc1
 clear hr1 hc1
 have H : (if (l0.length : Int) = (l1.length : Int) then (bK.l0 k l0 l1 0) else (some false)) = some r:=h
 clear h
 by_cases c3 : (l0.length : Int) = (l1.length : Int)
 ·rw [if_pos c3] at H
  have c3b0 : ((l0.length : Int) == (l1.length : Int)) = true:=beq_iff_eq.mpr c3
  have c3b1 : ((l0.length : Int) != (l1.length : Int)) = false:=bne_eq_false_iff_eq.mpr c3
  have c3b2 : (l0.length == l1.length) = true:=by first|simpa using c3|(simp at c3 ⊢;omega)
  clear c3
  have H':=Aside0.mk H
  clear H
  go_enter Tryz.func28,Tryz.ntmps28
  go_wp2
  repeat (go_quiet (fail);try go_wp2)
  go_loopg [5] k (fun kq v5 w'=>∃ (Bj : Int),v5 = .int .i64 Bj ∧ Aside0 (bK.l0 kq l0 l1 Bj = some r) ∧ Aside0 (kq ≤ k) ∧ Drawn0 w w')
  case atStart=>exact ⟨(0),(by first|rfl|(simp;done)|(simp [*];done)),H',⟨Nat.le_refl _⟩,by repeat (first|exact Drawn0.refl _|apply Drawn0.step)⟩
  case round =>
   clear H'
   obtain ⟨Bj,rfl,HA,DF,⟨m1,rfl⟩⟩:=hrel
   cases gk with
   | zero=>exact absurd HA.out (by simp [bK.l0])
   | succ k1 =>
    have H:=HA.out
    clear HA
    simp only [bK.l0] at H
    by_cases c4 : Bj < (l0.length : Int)
    ·rw [if_pos c4] at H
     have c4b0 : decide (Bj < (l0.length : Int)) = true:=decide_eq_true c4
     clear c4
     by_cases c5 : 0 ≤ Bj
     ·rw [if_pos c5] at H
      have c5b0 : decide (0 ≤ Bj) = true:=decide_eq_true c5
      clear c5
      by_cases c6 : Bj < (l1.length : Int)
      ·rw [if_pos c6] at H
       have c6b0 : decide (Bj < (l1.length : Int)) = true:=decide_eq_true c6
       clear c6
       by_cases c7 : (iO ByteArray.empty l0 Bj).toList = (iO ByteArray.empty l1 Bj).toList
       ·rw [if_pos c7] at H
        have c7b0 : ((iO ByteArray.empty l0 Bj).toList == (iO ByteArray.empty l1 Bj).toList) = true:=beq_iff_eq.mpr c7
        have c7b1 : ((iO ByteArray.empty l0 Bj).toList != (iO ByteArray.empty l1 Bj).toList) = false:=bne_eq_false_iff_eq.mpr c7
        clear c7
        have H':=Aside0.mk H
        clear H
        have Dw : 0 ≤ (Bj : Int):=of_decide_eq_true (by first|(with_reducible assumption)|assumption)
        have Dx : Bj < (l0.length : Int):=of_decide_eq_true (by first|(with_reducible assumption)|assumption)
        obtain ⟨Fh,e305,Et⟩:=Kd.iN CF.out Bj Dw Dx
        cases e305
        replace Dw:=eq_true Dw
        replace Dx:=eq_true Dx
        have Dy : 0 ≤ (Bj : Int):=of_decide_eq_true (by first|(with_reducible assumption)|assumption)
        have Dz : Bj < (l1.length : Int):=of_decide_eq_true (by first|(with_reducible assumption)|assumption)
        obtain ⟨Fj,e306,Eu⟩:=Kd.iN HR1.out Bj Dy Dz
        cases e306
        replace Dy:=eq_true Dy
        replace Dz:=eq_true Dz
        go_wp2
        repeat (go_quiet (fail);try go_wp2)
        go_roundg k1
        case measure=>have:=DF.out;omega
        case rel=>exact ⟨(wrap64 (Bj + 1)),(by first|rfl|(simp;done)|(simp [*];done)),H',⟨by have:=DF.out;omega⟩,by repeat (first|exact Drawn0.refl _|apply Drawn0.step)⟩
       ·rw [if_neg c7] at H
        have c7b0 : ((iO ByteArray.empty l0 Bj).toList == (iO ByteArray.empty l1 Bj).toList) = false:=beq_eq_false_iff_ne.mpr c7
        have c7b1 : ((iO ByteArray.empty l0 Bj).toList != (iO ByteArray.empty l1 Bj).toList) = true:=bne_iff_ne.mpr c7
        obtain rfl:=Option.some.inj H
        have Dw : 0 ≤ (Bj : Int):=of_decide_eq_true (by first|(with_reducible assumption)|assumption)
        have Dx : Bj < (l0.length : Int):=of_decide_eq_true (by first|(with_reducible assumption)|assumption)
        obtain ⟨Fh,e305,Et⟩:=Kd.iN CF.out Bj Dw Dx
        cases e305
        replace Dw:=eq_true Dw
        replace Dx:=eq_true Dx
        have Dy : 0 ≤ (Bj : Int):=of_decide_eq_true (by first|(with_reducible assumption)|assumption)
        have Dz : Bj < (l1.length : Int):=of_decide_eq_true (by first|(with_reducible assumption)|assumption)
        obtain ⟨Fj,e306,Eu⟩:=Kd.iN HR1.out Bj Dy Dz
        cases e306
        replace Dy:=eq_true Dy
        replace Dz:=eq_true Dz
        go_wp2
        repeat (go_quiet (fail);try go_wp2)
        go_ret
        exact ⟨by first|rfl|(simp;done)|(simp [*];done),by repeat (first|exact Drawn0.refl _|apply Drawn0.step)⟩
      ·rw [if_neg c6] at H
       exact absurd H (by simp)
     ·rw [if_neg c5] at H
      exact absurd H (by simp)
    ·rw [if_neg c4] at H
     have c4b0 : decide (Bj < (l0.length : Int)) = false:=decide_eq_false c4
     clear c4
     obtain rfl:=Option.some.inj H
     go_wp2
     repeat (go_quiet (fail);try go_wp2)
     go_ret
     exact ⟨by first|rfl|(simp;done)|(simp [*];done),by repeat (first|exact Drawn0.refl _|apply Drawn0.step)⟩
 ·rw [if_neg c3] at H
  have c3b0 : ((l0.length : Int) == (l1.length : Int)) = false:=beq_eq_false_iff_ne.mpr c3
  have c3b1 : ((l0.length : Int) != (l1.length : Int)) = true:=bne_iff_ne.mpr c3
  have c3b2 : (l0.length == l1.length) = false:=by first|simpa using c3|(simp at c3 ⊢;omega)
  obtain rfl:=Option.some.inj H
  go_enter Tryz.func28,Tryz.ntmps28
  go_wp2
  repeat (go_quiet (fail);try go_wp2)
  go_ret
  exact ⟨by first|rfl|(simp;done)|(simp [*];done),by repeat (first|exact Drawn0.refl _|apply Drawn0.step)⟩
end Go.Proofs.YtpflenjhmeaeoaaGreatDoor.GUt
