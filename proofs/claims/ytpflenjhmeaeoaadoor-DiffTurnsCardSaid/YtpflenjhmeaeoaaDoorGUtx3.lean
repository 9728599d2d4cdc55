/- Written by this session's own program (wip/gen.py) out of the translation: plain Lean functions of the Go functions, and proofs that the calls come to their answers. No conditions beside those in the statements. -/
import Derived.Test.YtpflenjhmeaeoaaDoorCp
import Derived.Test.YtpflenjhmeaeoaaDoorGUtx0
namespace Go.Proofs.YtpflenjhmeaeoaaDoor.GUt
open Go.RowKit Go.Proofs.YtpflenjhmeaeoaaDoorW.PrintWords Go.Proofs.YtpflenjhmeaeoaaDoorW.PrintLast Go.Proofs.YtpflenjhmeaeoaaDoorW.PrintMore
attribute [local go_sem] fC fD gu gD eP eT fE fF
set_option linter.unusedVariables false
set_option linter.unusedSimpArgs false
def bF.l0 : Nat → List ByteArray → List ByteArray → Int → Option (Bool)
 | 0,_,_,_=>none
 | k + 1,x0,x1,x5=>if x5 < (x0.length : Int) then (if 0 ≤ x5 then (if x5 < (x1.length : Int) then (if (iH ByteArray.empty x0 x5).toList = (iH ByteArray.empty x1 x5).toList then (bF.l0 k x0 x1 (wrap64 (x5 + 1))) else (some false)) else (none)) else (none)) else (some true)
def bF.f (k : Nat) (l0 : List ByteArray) (l1 : List ByteArray) : Option (Bool):=if (l0.length : Int) = (l1.length : Int) then (bF.l0 k l0 l1 0) else (some false)
theorem bF.dV : ∀ k,(∀ y0 y1 y2,LeO (bF.l0 k y0 y1 y2) (bF.l0 (k + 1) y0 y1 y2))
 | 0=>fun _ _ _ r h=>by simp [bF.l0] at h
 | k + 1=>by
  have BG:=bF.dV k
  ·intro y0 y1 y2
   unfold bF.l0
   repeat' first
   | (with_reducible exact BG _ _ _)
   | (with_reducible exact LeO.refl _)
   | (with_reducible exact LeO.none _)
   | (with_reducible refine LeO.ite ?_ ?_)
   | (with_reducible refine LeO.bind ?_ (fun _=>?_))
   | exact BG _ _ _
   | exact LeO.none _
   | refine LeO.ite ?_ ?_
   | refine LeO.bind ?_ (fun _=>?_)
theorem bF.mono : ∀ a0 a1 k,LeO (bF.f k a0 a1) (bF.f (k + 1) a0 a1):=by
 intro a0 a1 k
 have BG:=bF.dV k
 unfold bF.f
 repeat' first
   | (with_reducible exact BG _ _ _)
   | (with_reducible exact LeO.refl _)
   | (with_reducible exact LeO.none _)
   | (with_reducible refine LeO.ite ?_ ?_)
   | (with_reducible refine LeO.bind ?_ (fun _=>?_))
   | exact BG _ _ _
   | exact LeO.none _
   | refine LeO.ite ?_ ?_
   | refine LeO.bind ?_ (fun _=>?_)
set_option maxHeartbeats 8000000 in
set_option maxRecDepth 100000 in
theorem bF.calls (k : Nat) (A0 : Option Addr) (c0 : Nat) (l0 : List ByteArray) (A1 : Option Addr) (c1 : Nat) (l1 : List ByteArray) (r : Bool) (w : World) (hr0 : Kd.C Kd.string w A0 l0.length l0) (hc0 : l0.length ≤ c0) (hr1 : Kd.C Kd.string w A1 l1.length l1) (hc1 : l1.length ≤ c1) (h : bF.f k l0 l1 = some r) :
  Calls Tryd.prog 45 #[.slice A0 l0.length c0,.slice A1 l1.length c1] w fun e w'=>e = .returned (.bool r) ∧ Drawn0 w w':=by
 have Ew:=Aside0.mk hr0
 have EZ:=Aside0.mk hc0
 clear hr0 hc0
 have HR1:=Aside0.mk hr1
 have E5:=Aside0.mk hc1
 clear hr1 hc1
 have H : (if (l0.length : Int) = (l1.length : Int) then (bF.l0 k l0 l1 0) else (some false)) = some r:=h
 clear h
 by_cases c3 : (l0.length : Int) = (l1.length : Int)
 ·rw [if_pos c3] at H
  have c3b0 : ((l0.length : Int) == (l1.length : Int)) = true:=beq_iff_eq.mpr c3
  have c3b1 : ((l0.length : Int) != (l1.length : Int)) = false:=bne_eq_false_iff_eq.mpr c3
  have c3b2 : (l0.length == l1.length) = true:=by first|simpa using c3|(simp at c3 ⊢;omega)
  clear c3
  have H':=Aside0.mk H
  clear H
  go_enter Tryd.func45,Tryd.ntmps45
  go_wp2
  repeat (go_quiet (fail);try go_wp2)
  go_loopg [5] k (fun kq v5 w'=>∃ (Aw : Int),v5 = .int .i64 Aw ∧ Aside0 (bF.l0 kq l0 l1 Aw = some r) ∧ Aside0 (kq ≤ k) ∧ Drawn0 w w')
  case atStart=>exact ⟨(0),(by first|rfl|(simp;done)|(simp [*];done)),H',⟨Nat.le_refl _⟩,by repeat (first|exact Drawn0.refl _|apply Drawn0.step)⟩
  case round =>
   clear H'
   try clear c1
   try clear p2
   try clear c3
   try clear c3b0
   try clear c3b1
   try clear c3b2
   obtain ⟨Aw,rfl,HA,CX,⟨m1,rfl⟩⟩:=hrel
   cases gk with
   | zero=>exact absurd HA.out (by simp [bF.l0])
   | succ k1 =>
    have H:=HA.out
    clear HA
    simp only [bF.l0] at H
    by_cases c4 : Aw < (l0.length : Int)
    ·rw [if_pos c4] at H
     have c4b0 : decide (Aw < (l0.length : Int)) = true:=decide_eq_true c4
     clear c4
     by_cases c5 : 0 ≤ Aw
     ·rw [if_pos c5] at H
      have c5b0 : decide (0 ≤ Aw) = true:=decide_eq_true c5
      clear c5
      by_cases c6 : Aw < (l1.length : Int)
      ·rw [if_pos c6] at H
       have c6b0 : decide (Aw < (l1.length : Int)) = true:=decide_eq_true c6
       clear c6
       by_cases c7 : (iH ByteArray.empty l0 Aw).toList = (iH ByteArray.empty l1 Aw).toList
       ·rw [if_pos c7] at H
        have c7b0 : ((iH ByteArray.empty l0 Aw).toList == (iH ByteArray.empty l1 Aw).toList) = true:=beq_iff_eq.mpr c7
        have c7b1 : ((iH ByteArray.empty l0 Aw).toList != (iH ByteArray.empty l1 Aw).toList) = false:=bne_eq_false_iff_eq.mpr c7
        clear c7
        have H':=Aside0.mk H
        clear H
        have BH : 0 ≤ (Aw : Int):=of_decide_eq_true (by first|(with_reducible assumption)|assumption)
        have BI : Aw < (l0.length : Int):=of_decide_eq_true (by first|(with_reducible assumption)|assumption)
        obtain ⟨D5,DU,CY⟩:=Kd.iJ Ew.out Aw BH BI
        cases DU
        replace BH:=eq_true BH
        replace BI:=eq_true BI
        have BJ : 0 ≤ (Aw : Int):=of_decide_eq_true (by first|(with_reducible assumption)|assumption)
        have BK : Aw < (l1.length : Int):=of_decide_eq_true (by first|(with_reducible assumption)|assumption)
        obtain ⟨D6,DV,CZ⟩:=Kd.iJ HR1.out Aw BJ BK
        cases DV
        replace BJ:=eq_true BJ
        replace BK:=eq_true BK
        go_wp2
        repeat (go_quiet (fail);try go_wp2)
        go_roundg k1
        case measure=>have:=CX.out;omega
        case rel=>exact ⟨(wrap64 (Aw + 1)),(by first|rfl|(simp;done)|(simp [*];done)),H',⟨by have:=CX.out;omega⟩,by repeat (first|exact Drawn0.refl _|apply Drawn0.step)⟩
       ·rw [if_neg c7] at H
        have c7b0 : ((iH ByteArray.empty l0 Aw).toList == (iH ByteArray.empty l1 Aw).toList) = false:=beq_eq_false_iff_ne.mpr c7
        have c7b1 : ((iH ByteArray.empty l0 Aw).toList != (iH ByteArray.empty l1 Aw).toList) = true:=bne_iff_ne.mpr c7
        obtain rfl:=Option.some.inj H
        have BH : 0 ≤ (Aw : Int):=of_decide_eq_true (by first|(with_reducible assumption)|assumption)
        have BI : Aw < (l0.length : Int):=of_decide_eq_true (by first|(with_reducible assumption)|assumption)
        obtain ⟨D5,DU,CY⟩:=Kd.iJ Ew.out Aw BH BI
        cases DU
        replace BH:=eq_true BH
        replace BI:=eq_true BI
        have BJ : 0 ≤ (Aw : Int):=of_decide_eq_true (by first|(with_reducible assumption)|assumption)
        have BK : Aw < (l1.length : Int):=of_decide_eq_true (by first|(with_reducible assumption)|assumption)
        obtain ⟨D6,DV,CZ⟩:=Kd.iJ HR1.out Aw BJ BK
        cases DV
        replace BJ:=eq_true BJ
        replace BK:=eq_true BK
        go_wp2
        repeat (go_quiet (fail);try go_wp2)
        go_ret
        exact ⟨by first|rfl|(simp;done)|(simp [*];done),by repeat (first|exact Drawn0.refl _|apply Drawn0.step)⟩
      ·rw [if_neg c6] at H
       exact absurd H (by simp)
     ·rw [if_neg c5] at H
      exact absurd H (by simp)
    ·rw [if_neg c4] at H
     have c4b0 : decide (Aw < (l0.length : Int)) = false:=decide_eq_false c4
     clear c4
     obtain rfl:=Option.some.inj H
     go_wp2
     repeat (go_quiet (fail);try go_wp2)
     go_ret
     exact ⟨by first|rfl|(simp;done)|(simp [*];done),by repeat (first|exact Drawn0.refl _|apply Drawn0.step)⟩
 ·rw [if_neg c3] at H
  have c3b0 : ((l0.length : Int) == (l1.length : Int)) = false:=beq_eq_false_iff_ne.mpr c3
  have c3b1 : ((l0.length : Int) != (l1.length : Int)) = true:=bne_iff_ne.mpr c3
  have c3b2 : (l0.length == l1.length) = false:=by first|simpa using c3|(simp at c3 ⊢;omega)
  obtain rfl:=Option.some.inj H
  go_enter Tryd.func45,Tryd.ntmps45
  go_wp2
  repeat (go_quiet (fail);try go_wp2)
  go_ret
  exact ⟨by first|rfl|(simp;done)|(simp [*];done),by repeat (first|exact Drawn0.refl _|apply Drawn0.step)⟩
mutual
def aQ.l0 : Nat → Int → List (S43) → Int → Int → Option (Int)
 | 0,_,_,_,_=>none
 | k + 1,x3,x18,DI,x20=>if x20 < DI then (if 0 ≤ x20 then (if x20 < (x18.length : Int) then (aQ.l1 k (wrap64 (x3 + (wrap64 ((wrap64 ((wrap64 (20 + (((aj x18 x20).f0).size : Int))) + (((aj x18 x20).f1).size : Int))) + (wrap64 (10 * (((aj x18 x20).f3).length : Int))))))) x18 DI x20 ((aj x18 x20).f2) (((aj x18 x20).f2).length : Int) 0 ((aj x18 x20).f0) ((aj x18 x20).f1) ((aj x18 x20).f2) ((aj x18 x20).f3) ((aj x18 x20).f4) ((aj x18 x20).f5) ((aj x18 x20).f6)) else (none)) else (none)) else (some x3)
def aQ.l1 : Nat → Int → List (S43) → Int → Int → List ByteArray → Int → Int → ByteArray → ByteArray → List ByteArray → List (S46) → Int → Int → List (S82) → Option (Int)
 | 0,_,_,_,_,_,_,_,_,_,_,_,_,_,_=>none
 | k + 1,x3,x18,DI,x20,x40,x41,D7,C8,C9,Da,Db,Dc,Df,Bw=>if D7 < x41 then (if 0 ≤ D7 then (if D7 < (x40.length : Int) then (aQ.l1 k (wrap64 (x3 + (wrap64 (10 + ((iH ByteArray.empty x40 D7).size : Int))))) x18 DI x20 x40 x41 (wrap64 (D7 + 1)) C8 C9 Da Db Dc Df Bw) else (none)) else (none)) else (aQ.l2 k x3 x18 DI x20 Bw (Bw.length : Int) 0)
def aQ.l2 : Nat → Int → List (S43) → Int → Int → List (S82) → Int → Int → Option (Int)
 | 0,_,_,_,_,_,_,_=>none
 | k + 1,x3,x18,DI,x20,Ec,x54,x55=>if x55 < x54 then (if 0 ≤ x55 then (if x55 < (Ec.length : Int) then (aQ.l2 k (wrap64 (x3 + (wrap64 ((wrap64 (10 + (((fT Ec x55).f0).size : Int))) + (((fT Ec x55).f1).size : Int))))) x18 DI x20 Ec x54 (wrap64 (x55 + 1))) else (none)) else (none)) else (if x3 > 20000 then (some 20001) else (aQ.l0 k x3 x18 DI (wrap64 (x20 + 1))))
end
def aQ.f (k : Nat) (AP : ByteArray) (AQ : ByteArray) (AU : Int) (AV : Int) (AX : Bool) (Am : List (S43)) : Option (Int):=aQ.l0 k (wrap64 ((AP.size : Int) + (AQ.size : Int))) Am (Am.length : Int) 0
theorem aQ.dV : ∀ k,(∀ y0 y1 y2 y3,LeO (aQ.l0 k y0 y1 y2 y3) (aQ.l0 (k + 1) y0 y1 y2 y3)) ∧ (∀ y0 y1 y2 y3 y4 y5 y6 y7 y8 y9 Eo Ep Er y13,LeO (aQ.l1 k y0 y1 y2 y3 y4 y5 y6 y7 y8 y9 Eo Ep Er y13) (aQ.l1 (k + 1) y0 y1 y2 y3 y4 y5 y6 y7 y8 y9 Eo Ep Er y13)) ∧ (∀ y0 y1 y2 y3 y4 y5 y6,LeO (aQ.l2 k y0 y1 y2 y3 y4 y5 y6) (aQ.l2 (k + 1) y0 y1 y2 y3 y4 y5 y6))
 | 0=>⟨fun _ _ _ _ r h=>by simp [aQ.l0] at h,fun _ _ _ _ _ _ _ _ _ _ _ _ _ _ r h=>by simp [aQ.l1] at h,fun _ _ _ _ _ _ _ r h=>by simp [aQ.l2] at h⟩
 | k + 1=>by
  obtain ⟨BG,ih1,ih2⟩:=aQ.dV k
  refine ⟨?_,?_,?_⟩
  ·intro y0 y1 y2 y3
   unfold aQ.l0
   repeat' first
   | (with_reducible exact BG _ _ _ _)
   | (with_reducible exact ih1 _ _ _ _ _ _ _ _ _ _ _ _ _ _)
   | (with_reducible exact ih2 _ _ _ _ _ _ _)
   | (with_reducible exact LeO.refl _)
   | (with_reducible exact LeO.none _)
   | (with_reducible refine LeO.ite ?_ ?_)
   | (with_reducible refine LeO.bind ?_ (fun _=>?_))
   | exact BG _ _ _ _
   | exact ih1 _ _ _ _ _ _ _ _ _ _ _ _ _ _
   | exact ih2 _ _ _ _ _ _ _
   | exact LeO.none _
   | refine LeO.ite ?_ ?_
   | refine LeO.bind ?_ (fun _=>?_)
  ·intro y0 y1 y2 y3 y4 y5 y6 y7 y8 y9 Eo Ep Er y13
   unfold aQ.l1
   repeat' first
   | (with_reducible exact BG _ _ _ _)
   | (with_reducible exact ih1 _ _ _ _ _ _ _ _ _ _ _ _ _ _)
   | (with_reducible exact ih2 _ _ _ _ _ _ _)
   | (with_reducible exact LeO.refl _)
   | (with_reducible exact LeO.none _)
   | (with_reducible refine LeO.ite ?_ ?_)
   | (with_reducible refine LeO.bind ?_ (fun _=>?_))
   | exact BG _ _ _ _
   | exact ih1 _ _ _ _ _ _ _ _ _ _ _ _ _ _
   | exact ih2 _ _ _ _ _ _ _
   | exact LeO.none _
   | refine LeO.ite ?_ ?_
   | refine LeO.bind ?_ (fun _=>?_)
  ·intro y0 y1 y2 y3 y4 y5 y6
   unfold aQ.l2
   repeat' first
   | (with_reducible exact BG _ _ _ _)
   | (with_reducible exact ih1 _ _ _ _ _ _ _ _ _ _ _ _ _ _)
   | (with_reducible exact ih2 _ _ _ _ _ _ _)
   | (with_reducible exact LeO.refl _)
   | (with_reducible exact LeO.none _)
   | (with_reducible refine LeO.ite ?_ ?_)
   | (with_reducible refine LeO.bind ?_ (fun _=>?_))
   | exact BG _ _ _ _
   | exact ih1 _ _ _ _ _ _ _ _ _ _ _ _ _ _
   | exact ih2 _ _ _ _ _ _ _
   | exact LeO.none _
   | refine LeO.ite ?_ ?_
   | refine LeO.bind ?_ (fun _=>?_)
theorem aQ.mono : ∀ a0 a1 a2 a3 a4 a5 k,LeO (aQ.f k a0 a1 a2 a3 a4 a5) (aQ.f (k + 1) a0 a1 a2 a3 a4 a5):=by
 intro a0 a1 a2 a3 a4 a5 k
 obtain ⟨BG,ih1,ih2⟩:=aQ.dV k
 unfold aQ.f
 repeat' first
   | (with_reducible exact BG _ _ _ _)
   | (with_reducible exact ih1 _ _ _ _ _ _ _ _ _ _ _ _ _ _)
   | (with_reducible exact ih2 _ _ _ _ _ _ _)
   | (with_reducible exact LeO.refl _)
   | (with_reducible exact LeO.none _)
   | (with_reducible refine LeO.ite ?_ ?_)
   | (with_reducible refine LeO.bind ?_ (fun _=>?_))
   | exact BG _ _ _ _
   | exact ih1 _ _ _ _ _ _ _ _ _ _ _ _ _ _
   | exact ih2 _ _ _ _ _ _ _
   | exact LeO.none _
   | refine LeO.ite ?_ ?_
   | refine LeO.bind ?_ (fun _=>?_)
set_option maxHeartbeats 8000000 in
set_option maxRecDepth 100000 in
theorem aQ.calls (k : Nat) (AP : ByteArray) (AQ : ByteArray) (AU : Int) (AV : Int) (AX : Bool) (Cq : Option Addr) (Bn : Nat) (Am : List (S43)) (r : Int) (w : World) (DJ : Kd.C k43 w Cq Am.length Am) (DK : Am.length ≤ Bn) (h : aQ.f k AP AQ AU AV AX Am = some r) :
  Calls Tryd.prog 30 #[.agg #[.string AP,.string AQ,.int .i64 AU,.int .i64 AV,.bool AX,.slice Cq Am.length Bn]] w fun e w'=>e = .returned (.int .i64 r) ∧ Below w.heap.size w w':=by
 have ES:=Tryd.underlying25
 have ET:=Tryd.underlying43
 have EU:=Tryd.underlying82
 have D8:=Aside0.mk DJ
 have Ey:=Aside0.mk DK
 clear DJ DK
 have HB:=Aside0.mk (Below.refl w.heap.size w)
 have H : (aQ.l0 k (wrap64 ((AP.size : Int) + (AQ.size : Int))) Am (Am.length : Int) 0) = some r:=h
 clear h
 have H':=Aside0.mk H
 clear H
 go_enter Tryd.func30,Tryd.ntmps30
 go_wp2_with (first|((with_reducible refine dA (N:=1) rfl ?_);refine dG ?hg (N:=1) ?hd (cs:=#[.string AP,.string AQ,.int .i64 AU,.int .i64 AV,.bool AX,.slice Cq Am.length Bn]) (t:=25) ?hr ?_;(case hd=>rfl);(case hg=>rfl);(case hr=>first|(go_simp;done)|(go_simp;rfl));intro Ay hg w2 hbox hb;have DL:=Aside0.mk (aJ hb_ hb);have DN:=Aside0.mk (hbox);have DR:=Aside0.mk ((by rw [hg];exact (aY hb_) : w.heap.size ≤ Ay));have DT:=Aside0.mk ((by rw [hg];exact (aY hb_) : w.heap.size ≤ Ay));clear HB;have HB:=DL;have Ap:=DN;have Ez:=DR;have EA:=DT;clear DL DN DR DT;clear hb hbox hg;have BL : w2.cell? ⟨Ay,0,none⟩ = some (.string AP):=(ah Ap.out 0).trans rfl;have BN : w2.cell? ⟨Ay,1,none⟩ = some (.string AQ):=(ah Ap.out 1).trans rfl;have BO : w2.cell? ⟨Ay,2,none⟩ = some (.int .i64 AU):=(ah Ap.out 2).trans rfl;have BP : w2.cell? ⟨Ay,3,none⟩ = some (.int .i64 AV):=(ah Ap.out 3).trans rfl;have BQ : w2.cell? ⟨Ay,4,none⟩ = some (.bool AX):=(ah Ap.out 4).trans rfl;have BR : w2.cell? ⟨Ay,5,none⟩ = some (.slice Cq Am.length Bn):=(ah Ap.out 5).trans rfl;have BS:=au Ap.out 0;have BU:=au Ap.out 1;have BX:=au Ap.out 2;have BZ:=au Ap.out 3;have Ca:=au Ap.out 4;have Cb:=au Ap.out 5))
 go_loopg [3,20] k (fun kq v3 v20 w'=>∃ (Dh : Int) (Al : Int),v3 = .int .i64 Dh ∧ v20 = .int .i64 Al ∧ Aside0 (aQ.l0 kq Dh Am (Am.length : Int) Al = some r) ∧ Aside0 (kq ≤ k) ∧ Aside0 (w'.heap[Ay]? = some (.cells #[.string AP,.string AQ,.int .i64 AU,.int .i64 AV,.bool AX,(.slice Cq Am.length Bn)] 25 (0,0))) ∧ Aside0 (Below w.heap.size w w'))
 case atStart=>exact ⟨(wrap64 ((AP.size : Int) + (AQ.size : Int))),(0),(by first|rfl|(simp;done)|(simp [*];done)),(by first|rfl|(simp;done)|(simp [*];done)),H',⟨Nat.le_refl _⟩,⟨by (with_reducible repeat (first|apply aC|apply aG|apply aH));exact Ap.out⟩,⟨hb_⟩⟩
 case round =>
  clear H'
  try clear p2
  try clear c3
  try clear BL
  try clear BN
  try clear BO
  try clear BP
  try clear BQ
  try clear BR
  try clear BS
  try clear BU
  try clear BX
  try clear BZ
  try clear Ca
  try clear Cb
  obtain ⟨Dh,Al,rfl,rfl,HA,CX,Ap,HB⟩:=hrel
  cases gk with
  | zero=>exact absurd HA.out (by simp [aQ.l0])
  | succ k1 =>
   have H:=HA.out
   clear HA
   simp only [aQ.l0] at H
   by_cases c4 : Al < (Am.length : Int)
   ·rw [if_pos c4] at H
    have c4b0 : decide (Al < (Am.length : Int)) = true:=decide_eq_true c4
    clear c4
    by_cases c5 : 0 ≤ Al
    ·rw [if_pos c5] at H
     have c5b0 : decide (0 ≤ Al) = true:=decide_eq_true c5
     clear c5
     by_cases c6 : Al < (Am.length : Int)
     ·rw [if_pos c6] at H
      have c6b0 : decide (Al < (Am.length : Int)) = true:=decide_eq_true c6
      clear c6
      have H':=Aside0.mk H
      clear H
      have Cr : 0 ≤ (Al : Int):=of_decide_eq_true (by first|(with_reducible assumption)|assumption)
      have Ct : Al < (Am.length : Int):=of_decide_eq_true (by first|(with_reducible assumption)|assumption)
      obtain ⟨Br,AB,AJ,AL,AO,Cc,Bo,Es,AY,AZ,Bf,Bg,Bh,Bj,Bl,Ce,Cg,Ch,Ci,Cj,Ck⟩:=lJ D8.out Al Cr Ct
      cases Es
      replace AY:=(HB.out.cell (World.block_lt_of_cell? w _ AY)).trans AY
      replace AZ:=(HB.out.cell (World.block_lt_of_cell? w _ AZ)).trans AZ
      replace Bf:=(HB.out.cell (World.block_lt_of_cell? w _ Bf)).trans Bf
      replace Bg:=(HB.out.cell (World.block_lt_of_cell? w _ Bg)).trans Bg
      replace Bh:=(HB.out.cell (World.block_lt_of_cell? w _ Bh)).trans Bh
      replace Bj:=(HB.out.cell (World.block_lt_of_cell? w _ Bj)).trans Bj
      replace Bl:=(HB.out.cell (World.block_lt_of_cell? w _ Bl)).trans Bl
      have Di:=Aside0.mk Cg
      have Ed:=Aside0.mk Ce
      clear Cg Ce
      have Ee:=Aside0.mk Ci
      have Ef:=Aside0.mk Ch
      clear Ci Ch
      have Dj:=Aside0.mk Ck
      have Eh:=Aside0.mk Cj
      clear Ck Cj
      replace Cr:=eq_true Cr
      replace Ct:=eq_true Ct
      go_wp2_with (first|((with_reducible refine dA (N:=5) rfl ?_);refine dG ?hg (N:=5) ?hd (cs:=#[.string (⟨#[]⟩ : ByteArray),.string (⟨#[]⟩ : ByteArray),.slice none 0 0,.slice none 0 0,.int .i64 0,.int .i64 0,.slice none 0 0]) (t:=43) ?hr ?_;(case hd=>rfl);(case hg=>rfl);(case hr=>first|(go_simp;done)|(go_simp;rfl));intro Aq hg w7 hbox hb;have DL:=Aside0.mk (aM (g:=Ay) (o:=.cells #[.string AP,.string AQ,.int .i64 AU,.int .i64 AV,.bool AX,.slice (some Br) Am.length Bn] 25 (0,0)) (bk_ Ap.out) hb);have DN:=Aside0.mk (aJ hb_ hb);have DR:=Aside0.mk (hbox);have DT:=Aside0.mk ((by rw [hg];exact (aY hb_) : w.heap.size ≤ Aq));have D9:=Aside0.mk ((by rw [hg];exact (aY hb_) : w.heap.size ≤ Aq));have Ea:=Aside0.mk ((by rw [hg];exact Nat.ne_of_lt (dn (g:=Ay) (o:=.cells #[.string AP,.string AQ,.int .i64 AU,.int .i64 AV,.bool AX,.slice (some Br) Am.length Bn] 25 (0,0)) (bk_ Ap.out)) : Ay ≠ Aq));have Eb:=Aside0.mk ((by rw [hg];exact Nat.ne_of_gt (dn (g:=Ay) (o:=.cells #[.string AP,.string AQ,.int .i64 AU,.int .i64 AV,.bool AX,.slice (some Br) Am.length Bn] 25 (0,0)) (bk_ Ap.out)) : Aq ≠ Ay));clear Ap;clear HB;have Ap:=DL;have HB:=DN;have Ao:=DR;have EB:=DT;have EC:=D9;have Au:=Ea;have Bv:=Eb;clear DL DN DR DT D9 Ea Eb;clear hb hbox hg;have EW:=Bv.out;have EX:=Au.out;have Cu : w7.cell? ⟨Aq,0,none⟩ = some (.string (⟨#[]⟩ : ByteArray)):=(ah Ao.out 0).trans rfl;have Cv : w7.cell? ⟨Aq,1,none⟩ = some (.string (⟨#[]⟩ : ByteArray)):=(ah Ao.out 1).trans rfl;have Cw : w7.cell? ⟨Aq,2,none⟩ = some (.slice none 0 0):=(ah Ao.out 2).trans rfl;have Cz : w7.cell? ⟨Aq,3,none⟩ = some (.slice none 0 0):=(ah Ao.out 3).trans rfl;have CB : w7.cell? ⟨Aq,4,none⟩ = some (.int .i64 0):=(ah Ao.out 4).trans rfl;have CF : w7.cell? ⟨Aq,5,none⟩ = some (.int .i64 0):=(ah Ao.out 5).trans rfl;have CG : w7.cell? ⟨Aq,6,none⟩ = some (.slice none 0 0):=(ah Ao.out 6).trans rfl;have CJ:=au Ao.out 0;have CK:=au Ao.out 1;have CO:=au Ao.out 2;have CP:=au Ao.out 3;have CQ:=au Ao.out 4;have CS:=au Ao.out 5;have CU:=au Ao.out 6))
      go_loopg [3,42] k1 (fun kq v3 v42 w'=>∃ (CV : Int) (AA : Int),v3 = .int .i64 CV ∧ v42 = .int .i64 AA ∧ Aside0 (aQ.l1 kq CV Am (Am.length : Int) Al ((aj Am Al).f2) (((aj Am Al).f2).length : Int) AA ((aj Am Al).f0) ((aj Am Al).f1) ((aj Am Al).f2) ((aj Am Al).f3) ((aj Am Al).f4) ((aj Am Al).f5) ((aj Am Al).f6) = some r) ∧ Aside0 (kq ≤ k1) ∧ Aside0 (w'.heap[Ay]? = some (.cells #[.string AP,.string AQ,.int .i64 AU,.int .i64 AV,.bool AX,(.slice (some Br) Am.length Bn)] 25 (0,0))) ∧ Aside0 (w'.heap[Aq]? = some (.cells #[.string ((aj Am Al).f0),.string ((aj Am Al).f1),(.slice AB ((aj Am Al).f2).length AJ),(.slice AL ((aj Am Al).f3).length AO),.int .i64 ((aj Am Al).f4),.int .i64 ((aj Am Al).f5),(.slice Cc ((aj Am Al).f6).length Bo)] 43 (0,0))) ∧ Aside0 (Below w.heap.size w w'))
      case atStart=>exact ⟨(wrap64 (Dh + (wrap64 ((wrap64 ((wrap64 (20 + (((aj Am Al).f0).size : Int))) + (((aj Am Al).f1).size : Int))) + (wrap64 (10 * (((aj Am Al).f3).length : Int))))))),(0),(by first|rfl|(simp;done)|(simp [*];done)),(by first|rfl|(simp;done)|(simp [*];done)),H',⟨Nat.le_refl _⟩,⟨by (with_reducible repeat (first|apply aC|apply aG|apply aH));refine cB ?_ Au.out _;(with_reducible repeat (first|apply aC|apply aG|apply aH));refine cB ?_ Au.out _;(with_reducible repeat (first|apply aC|apply aG|apply aH));refine cB ?_ Au.out _;(with_reducible repeat (first|apply aC|apply aG|apply aH));refine cB ?_ Au.out _;(with_reducible repeat (first|apply aC|apply aG|apply aH));refine cB ?_ Au.out _;(with_reducible repeat (first|apply aC|apply aG|apply aH));refine cB ?_ Au.out _;(with_reducible repeat (first|apply aC|apply aG|apply aH));refine cB ?_ Au.out _;(with_reducible repeat (first|apply aC|apply aG|apply aH));exact Ap.out⟩,⟨by (with_reducible repeat (first|apply aC|apply aG|apply aH));refine bR (cs:=#[.string ((aj Am Al).f0),.string ((aj Am Al).f1),.slice AB ((aj Am Al).f2).length AJ,.slice AL ((aj Am Al).f3).length AO,.int .i64 ((aj Am Al).f4),.int .i64 ((aj Am Al).f5),.slice none 0 0]) ?_ 6 _ rfl;(with_reducible repeat (first|apply aC|apply aG|apply aH));refine bR (cs:=#[.string ((aj Am Al).f0),.string ((aj Am Al).f1),.slice AB ((aj Am Al).f2).length AJ,.slice AL ((aj Am Al).f3).length AO,.int .i64 ((aj Am Al).f4),.int .i64 0,.slice none 0 0]) ?_ 5 _ rfl;(with_reducible repeat (first|apply aC|apply aG|apply aH));refine bR (cs:=#[.string ((aj Am Al).f0),.string ((aj Am Al).f1),.slice AB ((aj Am Al).f2).length AJ,.slice AL ((aj Am Al).f3).length AO,.int .i64 0,.int .i64 0,.slice none 0 0]) ?_ 4 _ rfl;(with_reducible repeat (first|apply aC|apply aG|apply aH));refine bR (cs:=#[.string ((aj Am Al).f0),.string ((aj Am Al).f1),.slice AB ((aj Am Al).f2).length AJ,.slice none 0 0,.int .i64 0,.int .i64 0,.slice none 0 0]) ?_ 3 _ rfl;(with_reducible repeat (first|apply aC|apply aG|apply aH));refine bR (cs:=#[.string ((aj Am Al).f0),.string ((aj Am Al).f1),.slice none 0 0,.slice none 0 0,.int .i64 0,.int .i64 0,.slice none 0 0]) ?_ 2 _ rfl;(with_reducible repeat (first|apply aC|apply aG|apply aH));refine bR (cs:=#[.string ((aj Am Al).f0),.string (⟨#[]⟩ : ByteArray),.slice none 0 0,.slice none 0 0,.int .i64 0,.int .i64 0,.slice none 0 0]) ?_ 1 _ rfl;(with_reducible repeat (first|apply aC|apply aG|apply aH));refine bR (cs:=#[.string (⟨#[]⟩ : ByteArray),.string (⟨#[]⟩ : ByteArray),.slice none 0 0,.slice none 0 0,.int .i64 0,.int .i64 0,.slice none 0 0]) ?_ 0 _ rfl;(with_reducible repeat (first|apply aC|apply aG|apply aH));exact Ao.out⟩,⟨hb_⟩⟩
      case round =>
       clear H'
       try clear c1
       try clear p1
       try clear q1
       try clear hx1
       try clear p2
       try clear c3
       try clear c4
       try clear c4b0
       try clear c5
       try clear c5b0
       try clear c6
       try clear c6b0
       try clear p6
       try clear c8
       try clear BL
       try clear BN
       try clear BO
       try clear BP
       try clear BQ
       try clear BR
       try clear Cu
       try clear Cv
       try clear Cw
       try clear Cz
       try clear CB
       try clear CF
       try clear CG
       try clear BS
       try clear BU
       try clear BX
       try clear BZ
       try clear Ca
       try clear Cb
       try clear CJ
       try clear CK
       try clear CO
       try clear CP
       try clear CQ
       try clear CS
       try clear CU
       try clear AY
       try clear AZ
       try clear Bf
       try clear Bg
       try clear Bh
       try clear Bj
       try clear Bl
       try clear Cr
       try clear p2
       try clear Ct
       obtain ⟨CV,AA,rfl,rfl,HA,DY,Ap,Ao,HB⟩:=hrel
       cases gk with
       | zero=>exact absurd HA.out (by simp [aQ.l1])
       | succ k2 =>
        have H:=HA.out
        clear HA
        simp only [aQ.l1] at H
        by_cases c10 : AA < (((aj Am Al).f2).length : Int)
        ·rw [if_pos c10] at H
         have c10b0 : decide (AA < (((aj Am Al).f2).length : Int)) = true:=decide_eq_true c10
         clear c10
         by_cases c11 : 0 ≤ AA
         ·rw [if_pos c11] at H
          have c11b0 : decide (0 ≤ AA) = true:=decide_eq_true c11
          clear c11
          by_cases c12 : AA < (((aj Am Al).f2).length : Int)
          ·rw [if_pos c12] at H
           have c12b0 : decide (AA < (((aj Am Al).f2).length : Int)) = true:=decide_eq_true c12
           clear c12
           have H':=Aside0.mk H
           clear H
           have Dk : 0 ≤ (AA : Int):=of_decide_eq_true (by first|(with_reducible assumption)|assumption)
           have Dl : AA < (((aj Am Al).f2).length : Int):=of_decide_eq_true (by first|(with_reducible assumption)|assumption)
           obtain ⟨ED,Et,Bu⟩:=Kd.iJ Di.out AA Dk Dl
           cases Et
           replace Bu:=(HB.out.cell (World.block_lt_of_cell? w _ Bu)).trans Bu
           replace Dk:=eq_true Dk
           replace Dl:=eq_true Dl
           go_wp2
           go_roundg k2
           case measure=>have:=CX.out;have:=DY.out;omega
           case rel=>exact ⟨(wrap64 (CV + (wrap64 (10 + ((iH ByteArray.empty ((aj Am Al).f2) AA).size : Int))))),(wrap64 (AA + 1)),(by first|rfl|(simp;done)|(simp [*];done)),(by first|rfl|(simp;done)|(simp [*];done)),H',⟨by have:=CX.out;have:=DY.out;omega⟩,⟨by (with_reducible repeat (first|apply aC|apply aG|apply aH));exact Ap.out⟩,⟨by (with_reducible repeat (first|apply aC|apply aG|apply aH));exact Ao.out⟩,⟨hb_⟩⟩
          ·rw [if_neg c12] at H
           exact absurd H (by simp)
         ·rw [if_neg c11] at H
          exact absurd H (by simp)
        ·rw [if_neg c10] at H
         have c10b0 : decide (AA < (((aj Am Al).f2).length : Int)) = false:=decide_eq_false c10
         clear c10
         have H':=Aside0.mk H
         clear H
         have EF:=Bv.out
         have EG:=Au.out
         have Dm : wr.cell? ⟨Aq,0,none⟩ = some (.string ((aj Am Al).f0)):=(ah Ao.out 0).trans rfl
         have Dn : wr.cell? ⟨Aq,1,none⟩ = some (.string ((aj Am Al).f1)):=(ah Ao.out 1).trans rfl
         have Dp : wr.cell? ⟨Aq,2,none⟩ = some (.slice AB ((aj Am Al).f2).length AJ):=(ah Ao.out 2).trans rfl
         have Dq : wr.cell? ⟨Aq,3,none⟩ = some (.slice AL ((aj Am Al).f3).length AO):=(ah Ao.out 3).trans rfl
         have Dr : wr.cell? ⟨Aq,4,none⟩ = some (.int .i64 ((aj Am Al).f4)):=(ah Ao.out 4).trans rfl
         have Dt : wr.cell? ⟨Aq,5,none⟩ = some (.int .i64 ((aj Am Al).f5)):=(ah Ao.out 5).trans rfl
         have Du : wr.cell? ⟨Aq,6,none⟩ = some (.slice Cc ((aj Am Al).f6).length Bo):=(ah Ao.out 6).trans rfl
         have Dv:=au Ao.out 0
         have Dw:=au Ao.out 1
         have Dx:=au Ao.out 2
         have Dy:=au Ao.out 3
         have Dz:=au Ao.out 4
         have DC:=au Ao.out 5
         have DF:=au Ao.out 6
         go_wp2
         go_loopg [3,55] k2 (fun kq v3 v55 w'=>∃ (BF : Int) (Az : Int),v3 = .int .i64 BF ∧ v55 = .int .i64 Az ∧ Aside0 (aQ.l2 kq BF Am (Am.length : Int) Al ((aj Am Al).f6) (((aj Am Al).f6).length : Int) Az = some r) ∧ Aside0 (kq ≤ k2) ∧ Aside0 (w'.heap[Ay]? = some (.cells #[.string AP,.string AQ,.int .i64 AU,.int .i64 AV,.bool AX,(.slice (some Br) Am.length Bn)] 25 (0,0))) ∧ Aside0 (w'.heap[Aq]? = some (.cells #[.string ((aj Am Al).f0),.string ((aj Am Al).f1),(.slice AB ((aj Am Al).f2).length AJ),(.slice AL ((aj Am Al).f3).length AO),.int .i64 ((aj Am Al).f4),.int .i64 ((aj Am Al).f5),(.slice Cc ((aj Am Al).f6).length Bo)] 43 (0,0))) ∧ Aside0 (Below w.heap.size w w'))
         case atStart=>exact ⟨(CV),(0),(by first|rfl|(simp;done)|(simp [*];done)),(by first|rfl|(simp;done)|(simp [*];done)),H',⟨Nat.le_refl _⟩,⟨by (with_reducible repeat (first|apply aC|apply aG|apply aH));exact Ap.out⟩,⟨by (with_reducible repeat (first|apply aC|apply aG|apply aH));exact Ao.out⟩,⟨hb_⟩⟩
         case round =>
          clear H'
          try clear c1
          try clear p1
          try clear q1
          try clear hx1
          try clear p2
          try clear c3
          try clear c4
          try clear c4b0
          try clear c5
          try clear c5b0
          try clear c6
          try clear c6b0
          try clear p6
          try clear c8
          try clear c10
          try clear c10b0
          try clear E8
          try clear E9
          try clear EY
          try clear c11
          try clear c11b0
          try clear c12
          try clear c12b0
          try clear c13
          try clear Dm
          try clear Dn
          try clear Dp
          try clear Dq
          try clear Dr
          try clear Dt
          try clear Du
          try clear BL
          try clear BN
          try clear BO
          try clear BP
          try clear BQ
          try clear BR
          try clear Cu
          try clear Cv
          try clear Cw
          try clear Cz
          try clear CB
          try clear CF
          try clear CG
          try clear Dv
          try clear Dw
          try clear Dx
          try clear Dy
          try clear Dz
          try clear DC
          try clear DF
          try clear BS
          try clear BU
          try clear BX
          try clear BZ
          try clear Ca
          try clear Cb
          try clear CJ
          try clear CK
          try clear CO
          try clear CP
          try clear CQ
          try clear CS
          try clear CU
          try clear AY
          try clear AZ
          try clear Bf
          try clear Bg
          try clear Bh
          try clear Bj
          try clear Bl
          try clear Bu
          try clear p1
          try clear Cr
          try clear Dk
          try clear p2
          try clear p6
          try clear q1
          try clear Ct
          try clear Dl
          obtain ⟨BF,Az,rfl,rfl,HA,Ei,Ap,Ao,HB⟩:=hrel
          cases gk with
          | zero=>exact absurd HA.out (by simp [aQ.l2])
          | succ k3 =>
           have H:=HA.out
           clear HA
           simp only [aQ.l2] at H
           by_cases c15 : Az < (((aj Am Al).f6).length : Int)
           ·rw [if_pos c15] at H
            have c15b0 : decide (Az < (((aj Am Al).f6).length : Int)) = true:=decide_eq_true c15
            clear c15
            by_cases c16 : 0 ≤ Az
            ·rw [if_pos c16] at H
             have c16b0 : decide (0 ≤ Az) = true:=decide_eq_true c16
             clear c16
             by_cases c17 : Az < (((aj Am Al).f6).length : Int)
             ·rw [if_pos c17] at H
              have c17b0 : decide (Az < (((aj Am Al).f6).length : Int)) = true:=decide_eq_true c17
              clear c17
              have H':=Aside0.mk H
              clear H
              have DW : 0 ≤ (Az : Int):=of_decide_eq_true (by first|(with_reducible assumption)|assumption)
              have DX : Az < (((aj Am Al).f6).length : Int):=of_decide_eq_true (by first|(with_reducible assumption)|assumption)
              obtain ⟨CW,Eu,Bz,BD⟩:=mH Dj.out Az DW DX
              cases Eu
              replace Bz:=(HB.out.cell (World.block_lt_of_cell? w _ Bz)).trans Bz
              replace BD:=(HB.out.cell (World.block_lt_of_cell? w _ BD)).trans BD
              replace DW:=eq_true DW
              replace DX:=eq_true DX
              go_wp2_with (first|((with_reducible refine dA (N:=9) rfl ?_);refine dG ?hg (N:=9) ?hd (cs:=#[.string (⟨#[]⟩ : ByteArray),.string (⟨#[]⟩ : ByteArray)]) (t:=82) ?hr ?_;(case hd=>rfl);(case hg=>rfl);(case hr=>first|(go_simp;done)|(go_simp;rfl));intro Bt hg EH hbox hb;have DL:=Aside0.mk (aM (g:=Ay) (o:=.cells #[.string AP,.string AQ,.int .i64 AU,.int .i64 AV,.bool AX,.slice (some Br) Am.length Bn] 25 (0,0)) (bk_ Ap.out) hb);have DN:=Aside0.mk (aM (g:=Aq) (o:=.cells #[.string ((aj Am Al).f0),.string ((aj Am Al).f1),.slice AB ((aj Am Al).f2).length AJ,.slice AL ((aj Am Al).f3).length AO,.int .i64 ((aj Am Al).f4),.int .i64 ((aj Am Al).f5),.slice (some CW) ((aj Am Al).f6).length Bo] 43 (0,0)) (bk_ Ao.out) hb);have DR:=Aside0.mk (aJ hb_ hb);have DT:=Aside0.mk (hbox);have D9:=Aside0.mk ((by rw [hg];exact (aY hb_) : w.heap.size ≤ Bt));have Ea:=Aside0.mk ((by rw [hg];exact (aY hb_) : w.heap.size ≤ Bt));have Eb:=Aside0.mk ((by rw [hg];exact Nat.ne_of_lt (dn (g:=Ay) (o:=.cells #[.string AP,.string AQ,.int .i64 AU,.int .i64 AV,.bool AX,.slice (some Br) Am.length Bn] 25 (0,0)) (bk_ Ap.out)) : Ay ≠ Bt));have EI:=Aside0.mk ((by rw [hg];exact Nat.ne_of_gt (dn (g:=Ay) (o:=.cells #[.string AP,.string AQ,.int .i64 AU,.int .i64 AV,.bool AX,.slice (some Br) Am.length Bn] 25 (0,0)) (bk_ Ap.out)) : Bt ≠ Ay));have EJ:=Aside0.mk ((by rw [hg];exact Nat.ne_of_lt (dn (g:=Aq) (o:=.cells #[.string ((aj Am Al).f0),.string ((aj Am Al).f1),.slice AB ((aj Am Al).f2).length AJ,.slice AL ((aj Am Al).f3).length AO,.int .i64 ((aj Am Al).f4),.int .i64 ((aj Am Al).f5),.slice (some CW) ((aj Am Al).f6).length Bo] 43 (0,0)) (bk_ Ao.out)) : Aq ≠ Bt));have EK:=Aside0.mk ((by rw [hg];exact Nat.ne_of_gt (dn (g:=Aq) (o:=.cells #[.string ((aj Am Al).f0),.string ((aj Am Al).f1),.slice AB ((aj Am Al).f2).length AJ,.slice AL ((aj Am Al).f3).length AO,.int .i64 ((aj Am Al).f4),.int .i64 ((aj Am Al).f5),.slice (some CW) ((aj Am Al).f6).length Bo] 43 (0,0)) (bk_ Ao.out)) : Bt ≠ Aq));clear Ap;clear Ao;clear HB;have Ap:=DL;have Ao:=DN;have HB:=DR;have Cm:=DT;have EL:=D9;have EM:=Ea;have Bp:=Eb;have Cn:=EI;have Bq:=EJ;have Co:=EK;clear DL DN DR DT D9 Ea Eb EI EJ EK;clear hb hbox hg;have EN:=Cn.out;have EO:=Bp.out;have EP:=Co.out;have ER:=Bq.out;have Ej : EH.cell? ⟨Bt,0,none⟩ = some (.string (⟨#[]⟩ : ByteArray)):=(ah Cm.out 0).trans rfl;have El : EH.cell? ⟨Bt,1,none⟩ = some (.string (⟨#[]⟩ : ByteArray)):=(ah Cm.out 1).trans rfl;have Em:=au Cm.out 0;have En:=au Cm.out 1))
              go_roundg k3
              case measure=>have:=CX.out;have:=DY.out;have:=Ei.out;omega
              case rel=>exact ⟨(wrap64 (BF + (wrap64 ((wrap64 (10 + (((fT ((aj Am Al).f6) Az).f0).size : Int))) + (((fT ((aj Am Al).f6) Az).f1).size : Int))))),(wrap64 (Az + 1)),(by first|rfl|(simp;done)|(simp [*];done)),(by first|rfl|(simp;done)|(simp [*];done)),H',⟨by have:=CX.out;have:=DY.out;have:=Ei.out;omega⟩,⟨by (with_reducible repeat (first|apply aC|apply aG|apply aH));refine cB ?_ Bp.out _;(with_reducible repeat (first|apply aC|apply aG|apply aH));refine cB ?_ Bp.out _;(with_reducible repeat (first|apply aC|apply aG|apply aH));exact Ap.out⟩,⟨by (with_reducible repeat (first|apply aC|apply aG|apply aH));refine cB ?_ Bq.out _;(with_reducible repeat (first|apply aC|apply aG|apply aH));refine cB ?_ Bq.out _;(with_reducible repeat (first|apply aC|apply aG|apply aH));exact Ao.out⟩,⟨hb_⟩⟩
             ·rw [if_neg c17] at H
              exact absurd H (by simp)
            ·rw [if_neg c16] at H
             exact absurd H (by simp)
           ·rw [if_neg c15] at H
            have c15b0 : decide (Az < (((aj Am Al).f6).length : Int)) = false:=decide_eq_false c15
            clear c15
            by_cases DZ : BF > 20000
            ·rw [if_pos DZ] at H
             have c22b0 : decide (20000 < BF) = true:=decide_eq_true DZ
             clear DZ
             obtain rfl:=Option.some.inj H
             go_wp2
             go_ret
             exact ⟨by first|rfl|(simp [aV,aW] <;> rfl)|(simp [*,aV,aW] <;> rfl),hb_⟩
            ·rw [if_neg DZ] at H
             have c22b0 : decide (20000 < BF) = false:=decide_eq_false DZ
             clear DZ
             have H':=Aside0.mk H
             clear H
             go_wp2
             go_roundg k3
             case measure=>have:=CX.out;have:=DY.out;have:=Ei.out;omega
             case rel=>exact ⟨(BF),(wrap64 (Al + 1)),(by first|rfl|(simp;done)|(simp [*];done)),(by first|rfl|(simp;done)|(simp [*];done)),H',⟨by have:=CX.out;have:=DY.out;have:=Ei.out;omega⟩,⟨by (with_reducible repeat (first|apply aC|apply aG|apply aH));exact Ap.out⟩,⟨hb_⟩⟩
     ·rw [if_neg c6] at H
      exact absurd H (by simp)
    ·rw [if_neg c5] at H
     exact absurd H (by simp)
   ·rw [if_neg c4] at H
    have c4b0 : decide (Al < (Am.length : Int)) = false:=decide_eq_false c4
    clear c4
    obtain rfl:=Option.some.inj H
    go_wp2
    go_ret
    exact ⟨by first|rfl|(simp [aV,aW] <;> rfl)|(simp [*,aV,aW] <;> rfl),hb_⟩
end Go.Proofs.YtpflenjhmeaeoaaDoor.GUt
