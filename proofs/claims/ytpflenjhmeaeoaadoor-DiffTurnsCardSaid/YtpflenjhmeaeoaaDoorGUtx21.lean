/- Written by this session's own program (wip/gen.py) out of the translation: plain Lean functions of the Go functions, and proofs that the calls come to their answers. No conditions beside those in the statements. -/
import Derived.Test.YtpflenjhmeaeoaaDoorCp
import Derived.Test.YtpflenjhmeaeoaaDoorGUtx0
import Derived.Test.YtpflenjhmeaeoaaDoorGUtRSame
namespace Go.Proofs.YtpflenjhmeaeoaaDoor.GUt
open Go.RowKit Go.Proofs.YtpflenjhmeaeoaaDoorW.PrintWords Go.Proofs.YtpflenjhmeaeoaaDoorW.PrintLast Go.Proofs.YtpflenjhmeaeoaaDoorW.PrintMore
attribute [local go_sem] fC fD gu gD eP eT fE fF
set_option linter.unusedVariables false
set_option linter.unusedSimpArgs false
mutual
def aI.j0 : Nat → Bool → Int → List (S71) → Int → List (S71) → Option (Bool)
 | 0,_,_,_,_,_=>none
 | k + 1,Fu,Dl,BH,Dm,BI=>if Fu = true then (some false) else (aI.l0 k 0 Dl BH Dm BI)
def aI.l0 : Nat → Int → Int → List (S71) → Int → List (S71) → Option (Bool)
 | 0,_,_,_,_,_=>none
 | k + 1,x5,Dl,BH,Dm,BI=>if x5 < (BH.length : Int) then (if 0 ≤ x5 then (if x5 < (BI.length : Int) then (if ((aK BH x5).f0).toList = ((aK BI x5).f0).toList then ((bB.f k ((aK BH x5).f1.f0) ((aK BH x5).f1.f1) ((aK BH x5).f1.f2) ((aK BH x5).f1.f3) ((aK BH x5).f1.f4) ((aK BH x5).f1.f5) ((aK BI x5).f1.f0) ((aK BI x5).f1.f1) ((aK BI x5).f1.f2) ((aK BI x5).f1.f3) ((aK BI x5).f1.f4) ((aK BI x5).f1.f5)).bind fun Ee=>(if Ee = true then (aI.l0 k (wrap64 (x5 + 1)) Dl BH Dm BI) else (some false))) else (some false)) else (none)) else (none)) else (some true)
end
def aI.f (k : Nat) (Bg : Int) (Ap : List (S71)) (BJ : Int) (Aq : List (S71)) : Option (Bool):=if Bg = BJ then (aI.j0 k ((Ap.length : Int) != (Aq.length : Int)) Bg Ap BJ Aq) else (aI.j0 k true Bg Ap BJ Aq)
theorem aI.dV : ∀ k,(∀ y0 y1 y2 y3 y4,LeO (aI.j0 k y0 y1 y2 y3 y4) (aI.j0 (k + 1) y0 y1 y2 y3 y4)) ∧ (∀ y0 y1 y2 y3 y4,LeO (aI.l0 k y0 y1 y2 y3 y4) (aI.l0 (k + 1) y0 y1 y2 y3 y4))
 | 0=>⟨fun _ _ _ _ _ r h=>by simp [aI.j0] at h,fun _ _ _ _ _ r h=>by simp [aI.l0] at h⟩
 | k + 1=>by
  obtain ⟨El,ih1⟩:=aI.dV k
  refine ⟨?_,?_⟩
  ·intro y0 y1 y2 y3 y4
   unfold aI.j0
   repeat' first
   | (with_reducible exact El _ _ _ _ _)
   | (with_reducible exact ih1 _ _ _ _ _)
   | (with_reducible exact bB.mono _ _ _ _ _ _ _ _ _ _ _ _ _)
   | (with_reducible exact LeO.refl _)
   | (with_reducible exact LeO.none _)
   | (with_reducible refine LeO.ite ?_ ?_)
   | (with_reducible refine LeO.bind ?_ (fun _=>?_))
   | exact El _ _ _ _ _
   | exact ih1 _ _ _ _ _
   | exact bB.mono _ _ _ _ _ _ _ _ _ _ _ _ _
   | exact LeO.none _
   | refine LeO.ite ?_ ?_
   | refine LeO.bind ?_ (fun _=>?_)
  ·intro y0 y1 y2 y3 y4
   unfold aI.l0
   repeat' first
   | (with_reducible exact El _ _ _ _ _)
   | (with_reducible exact ih1 _ _ _ _ _)
   | (with_reducible exact bB.mono _ _ _ _ _ _ _ _ _ _ _ _ _)
   | (with_reducible exact LeO.refl _)
   | (with_reducible exact LeO.none _)
   | (with_reducible refine LeO.ite ?_ ?_)
   | (with_reducible refine LeO.bind ?_ (fun _=>?_))
   | exact El _ _ _ _ _
   | exact ih1 _ _ _ _ _
   | exact bB.mono _ _ _ _ _ _ _ _ _ _ _ _ _
   | exact LeO.none _
   | refine LeO.ite ?_ ?_
   | refine LeO.bind ?_ (fun _=>?_)
theorem aI.mono : ∀ a0 a1 a2 a3 k,LeO (aI.f k a0 a1 a2 a3) (aI.f (k + 1) a0 a1 a2 a3):=by
 intro a0 a1 a2 a3 k
 obtain ⟨El,ih1⟩:=aI.dV k
 unfold aI.f
 repeat' first
   | (with_reducible exact El _ _ _ _ _)
   | (with_reducible exact ih1 _ _ _ _ _)
   | (with_reducible exact bB.mono _ _ _ _ _ _ _ _ _ _ _ _ _)
   | (with_reducible exact LeO.refl _)
   | (with_reducible exact LeO.none _)
   | (with_reducible refine LeO.ite ?_ ?_)
   | (with_reducible refine LeO.bind ?_ (fun _=>?_))
   | exact El _ _ _ _ _
   | exact ih1 _ _ _ _ _
   | exact bB.mono _ _ _ _ _ _ _ _ _ _ _ _ _
   | exact LeO.none _
   | refine LeO.ite ?_ ?_
   | refine LeO.bind ?_ (fun _=>?_)
def aI.T6 : Bool × List (List Nat × List Nat):=(true,[([],[]),([0],[0]),([],[]),([1,2],[1,2]),([3],[3]),([4],[4]),([],[]),([6],[6]),([],[]),([7,8],[7,8]),([9],[9]),([10],[10]),([5,11],[5,11]),([12],[12]),([13],[13]),([14,13],[13,14]),([13],[13]),([15,16,13],[13,15,16]),([17,13],[13,17]),([18,13],[13,18]),([13],[13]),([20,13],[13,20]),([13],[13]),([21,22,13],[13,21,22]),([23,13],[13,23]),([24,13],[13,24]),([19,25,13,13],[13,19,25]),([26,13],[13,26]),([13,27],[13,27])])
def aI.B6 : List Nat:=[0,1,0,7,15,31,0,64,0,448,960,1984,4095,8191,16383,32767,16383,131071,262143,524287,16383,1064959,16383,7356415,15745023,32522239,67108863,134217727,268435455]
theorem aI.qO : gM .any (opsOf Tryd.f29 6) = aI.T6:=by kernel_rfl
theorem aI.mW : eY aI.T6.2 aI.B6 = true:=by kernel_rfl
set_option maxHeartbeats 8000000 in
set_option maxRecDepth 100000 in
theorem aI.calls (k : Nat) (Bg : Int) (CS : Option Addr) (CJ : Nat) (Ap : List (S71)) (BJ : Int) (Dt : Option Addr) (Da : Nat) (Aq : List (S71)) (r : Bool) (w : World) (Ef : Kd.C k71 w CS Ap.length Ap) (Eh : Ap.length ≤ CJ) (Ei : Kd.C k71 w Dt Aq.length Aq) (Ej : Aq.length ≤ Da) (h : aI.f k Bg Ap BJ Aq = some r) :
  Calls Tryd.prog 29 #[.agg #[.int .u64 Bg,.slice CS Ap.length CJ],.agg #[.int .u64 BJ,.slice Dt Aq.length Da]] w fun e w'=>e = .returned (.bool r) ∧ Below w.heap.size w w':=by
 have Fv:=Tryd.underlying68
 have Fw:=Tryd.underlying30
 have Dq:=Aside0.mk Ef
 have EO:=Aside0.mk Eh
 clear Ef Eh
 have Dr:=Aside0.mk Ei
 have EP:=Aside0.mk Ej
 clear Ei Ej
 have HB:=Aside0.mk (Below.refl w.heap.size w)
 have H : (if Bg = BJ then (aI.j0 k ((Ap.length : Int) != (Aq.length : Int)) Bg Ap BJ Aq) else (aI.j0 k true Bg Ap BJ Aq)) = some r:=h
 clear h
 have EM:=Aside0.mk H
 clear H
 go_enter Tryd.func29,Tryd.ntmps29
 go_upto_region 1 with (first|((with_reducible refine dA (N:=2) rfl ?_);(try (refine gH (by rfl) ?_;dsimp only));refine dG ?hg (N:=2) ?hd (cs:=#[.int .u64 Bg,.slice CS Ap.length CJ]) (t:=68) ?hr ?_;(case hd=>rfl);(case hg=>rfl);(case hr=>first|(go_simp;done)|(go_simp;rfl));intro AA hg w4 hbox hb;have Di:=Aside0.mk (aJ hb_ hb);have Dj:=Aside0.mk (hbox);have Dk:=Aside0.mk ((by rw [hg];exact (aY hb_) : w.heap.size ≤ AA));have Er:=Aside0.mk ((by rw [hg];exact (aY hb_) : w.heap.size ≤ AA));clear HB;have HB:=Di;have Au:=Dj;have ER:=Dk;have ES:=Er;clear Di Dj Dk Er;clear hb hbox hg)|((with_reducible refine dA (N:=3) rfl ?_);(try (refine gH (by rfl) ?_;dsimp only));refine dG ?hg (N:=3) ?hd (cs:=#[.int .u64 BJ,.slice Dt Aq.length Da]) (t:=68) ?hr ?_;(case hd=>rfl);(case hg=>rfl);(case hr=>first|(go_simp;done)|(go_simp;rfl));intro Cb hg w5 hbox hb;have Di:=Aside0.mk (aM (g:=AA) (o:=.cells #[.int .u64 Bg,.slice CS Ap.length CJ] 68 (0,0)) (bk_ Au.out) hb);have Dj:=Aside0.mk (aJ hb_ hb);have Dk:=Aside0.mk (hbox);have Er:=Aside0.mk ((by rw [hg];exact (aY hb_) : w.heap.size ≤ Cb));have ET:=Aside0.mk ((by rw [hg];exact (aY hb_) : w.heap.size ≤ Cb));have EU:=Aside0.mk ((by rw [hg];exact Nat.ne_of_lt (dn (g:=AA) (o:=.cells #[.int .u64 Bg,.slice CS Ap.length CJ] 68 (0,0)) (bk_ Au.out)) : AA ≠ Cb));have EW:=Aside0.mk ((by rw [hg];exact Nat.ne_of_gt (dn (g:=AA) (o:=.cells #[.int .u64 Bg,.slice CS Ap.length CJ] 68 (0,0)) (bk_ Au.out)) : Cb ≠ AA));clear Au;clear HB;have Au:=Di;have HB:=Dj;have Aw:=Dk;have EX:=Er;have EY:=ET;have Cv:=EU;have Cw:=EW;clear Di Dj Dk Er ET EU EW;clear hb hbox hg))
 (try simp only [Act.put,List.setIfInBounds_toArray,List.set_cons_zero,List.set_cons_succ])
 go_cut [19] (fun v19 wc=>∃ (kq : Nat) (Dy : Bool),v19 = .bool Dy ∧ Aside0 (aI.j0 kq Dy Bg Ap BJ Aq = some r) ∧ Aside0 (kq ≤ k) ∧ Aside0 (wc.heap[AA]? = some (.cells #[.int .u64 Bg,(.slice CS Ap.length CJ)] 68 (0,0))) ∧ Aside0 (wc.heap[Cb]? = some (.cells #[.int .u64 BJ,(.slice Dt Aq.length Da)] 68 (0,0))) ∧ Aside0 (Below w.heap.size w wc))
 case first =>
  have H:=EM.out
  clear EM
  by_cases c6 : Bg = BJ
  ·rw [if_pos c6] at H
   have c6b0 : (Bg == BJ) = true:=beq_iff_eq.mpr c6
   have c6b1 : (Bg != BJ) = false:=bne_eq_false_iff_eq.mpr c6
   clear c6
   (first|rw [c6b0]|(simp only [bH,bI];rw [c6b0])|skip)
   have H':=Aside0.mk H
   clear H
   have Fx:=Cv.out
   have Fy:=Cw.out
   have DU : w5.cell? ⟨AA,0,none⟩ = some (.int .u64 Bg):=(ah Au.out 0).trans rfl
   have DV : w5.cell? ⟨AA,1,none⟩ = some (.slice CS Ap.length CJ):=(ah Au.out 1).trans rfl
   have DW:=au Au.out 0
   have DX:=au Au.out 1
   have DY : w5.cell? ⟨Cb,0,none⟩ = some (.int .u64 BJ):=(ah Aw.out 0).trans rfl
   have DZ : w5.cell? ⟨Cb,1,none⟩ = some (.slice Dt Aq.length Da):=(ah Aw.out 1).trans rfl
   have D5:=au Aw.out 0
   have D6:=au Aw.out 1
   go_wp2
   go_meet
   case rel=>exact ⟨_,(((Ap.length : Int) != (Aq.length : Int))),(by first|rfl|(simp;done)|(simp [*];done)),H',⟨by first|omega|exact Nat.le_refl _⟩,⟨by (with_reducible repeat (first|apply aC|apply aG|apply aH));exact Au.out⟩,⟨by (with_reducible repeat (first|apply aC|apply aG|apply aH));exact Aw.out⟩,⟨hb_⟩⟩
  ·rw [if_neg c6] at H
   have c6b0 : (Bg == BJ) = false:=beq_eq_false_iff_ne.mpr c6
   have c6b1 : (Bg != BJ) = true:=bne_iff_ne.mpr c6
   (first|rw [c6b0]|(simp only [bH,bI];rw [c6b0])|skip)
   have H':=Aside0.mk H
   clear H
   have EZ:=Cv.out
   have E5:=Cw.out
   have Dz : w5.cell? ⟨AA,0,none⟩ = some (.int .u64 Bg):=(ah Au.out 0).trans rfl
   have DC : w5.cell? ⟨AA,1,none⟩ = some (.slice CS Ap.length CJ):=(ah Au.out 1).trans rfl
   have DF:=au Au.out 0
   have DI:=au Au.out 1
   have DJ : w5.cell? ⟨Cb,0,none⟩ = some (.int .u64 BJ):=(ah Aw.out 0).trans rfl
   have DK : w5.cell? ⟨Cb,1,none⟩ = some (.slice Dt Aq.length Da):=(ah Aw.out 1).trans rfl
   have DL:=au Aw.out 0
   have DN:=au Aw.out 1
   go_wp2
   go_meet
   case rel=>exact ⟨_,(true),(by first|rfl|(simp;done)|(simp [*];done)),H',⟨by first|omega|exact Nat.le_refl _⟩,⟨by (with_reducible repeat (first|apply aC|apply aG|apply aH));exact Au.out⟩,⟨by (with_reducible repeat (first|apply aC|apply aG|apply aH));exact Aw.out⟩,⟨hb_⟩⟩
 case rest =>
  clear EM
  try clear c1
  try clear c2
  try clear p2
  try clear c6
  try clear c6b0
  try clear c6b1
  try clear c7
  try clear c10
  try clear Dz
  try clear DC
  try clear DJ
  try clear DK
  try clear DU
  try clear DV
  try clear DY
  try clear DZ
  try clear DF
  try clear DI
  try clear DL
  try clear DN
  try clear DW
  try clear DX
  try clear D5
  try clear D6
  obtain ⟨kq,Dy,rfl,HA,HJ2,Au,Aw,HB⟩:=hcut
  cases kq with
  | zero=>exact absurd HA.out (by simp [aI.j0])
  | succ EN =>
   have H:=HA.out
   clear HA
   simp only [aI.j0] at H
   by_cases c13 : Dy = true
   ·subst c13
    have H1 : (some false) = some r:=by rw [if_pos rfl] at H;exact H
    clear H
    have H:=H1
    clear H1
    obtain rfl:=Option.some.inj H
    go_wp2
    go_ret
    exact ⟨by first|rfl|(simp [aV,aW] <;> rfl)|(simp [*,aV,aW] <;> rfl),hb_⟩
   ·replace c13:=Bool.eq_false_iff.mpr c13
    subst c13
    have H1 : (aI.l0 EN 0 Bg Ap BJ Aq) = some r:=by rw [if_neg (show ¬ (false = true) by decide)] at H;exact H
    clear H
    have H:=H1
    clear H1
    have H':=Aside0.mk H
    clear H
    go_wp2
    go_loopg [5] EN (fun kq v5 w'=>∃ (Al : Int),v5 = .int .i64 Al ∧ Aside0 (aI.l0 kq Al Bg Ap BJ Aq = some r) ∧ Aside0 (kq ≤ EN) ∧ Aside0 (w'.heap[AA]? = some (.cells #[.int .u64 Bg,(.slice CS Ap.length CJ)] 68 (0,0))) ∧ Aside0 (w'.heap[Cb]? = some (.cells #[.int .u64 BJ,(.slice Dt Aq.length Da)] 68 (0,0))) ∧ Aside0 (Below w.heap.size w w'))
    case atStart=>exact ⟨(0),(by first|rfl|(simp;done)|(simp [*];done)),H',⟨Nat.le_refl _⟩,⟨by (with_reducible repeat (first|apply aC|apply aG|apply aH));exact Au.out⟩,⟨by (with_reducible repeat (first|apply aC|apply aG|apply aH));exact Aw.out⟩,⟨hb_⟩⟩
    case round =>
     clear H'
     try clear c1
     try clear c2
     try clear p2
     try clear c6
     try clear c6b0
     try clear c6b1
     try clear c7
     try clear c10
     try clear c13
     try clear Dz
     try clear DC
     try clear DJ
     try clear DK
     try clear DU
     try clear DV
     try clear DY
     try clear DZ
     try clear DF
     try clear DI
     try clear DL
     try clear DN
     try clear DW
     try clear DX
     try clear D5
     try clear D6
     try clear p2
     obtain ⟨Al,rfl,HA,E8,Au,Aw,HB⟩:=hrel
     cases gk with
     | zero=>exact absurd HA.out (by simp [aI.l0])
     | succ k2 =>
      have H:=HA.out
      clear HA
      simp only [aI.l0] at H
      by_cases c14 : Al < (Ap.length : Int)
      ·rw [if_pos c14] at H
       have c14b0 : decide (Al < (Ap.length : Int)) = true:=decide_eq_true c14
       clear c14
       by_cases c15 : 0 ≤ Al
       ·rw [if_pos c15] at H
        have c15b0 : decide (0 ≤ Al) = true:=decide_eq_true c15
        clear c15
        by_cases c16 : Al < (Aq.length : Int)
        ·rw [if_pos c16] at H
         have c16b0 : decide (Al < (Aq.length : Int)) = true:=decide_eq_true c16
         clear c16
         by_cases c17 : ((aK Ap Al).f0).toList = ((aK Aq Al).f0).toList
         ·rw [if_pos c17] at H
          have c17b0 : (((aK Ap Al).f0).toList == ((aK Aq Al).f0).toList) = true:=beq_iff_eq.mpr c17
          have c17b1 : (((aK Ap Al).f0).toList != ((aK Aq Al).f0).toList) = false:=bne_eq_false_iff_eq.mpr c17
          clear c17
          replace H:=Option.bind_eq_some_iff.mp H
          obtain ⟨Ee,Es,H⟩:=H
          replace H : (if Ee = true then (aI.l0 k2 (wrap64 (Al + 1)) Bg Ap BJ Aq) else (some false)) = some r:=H
          have E9:=Aside0.mk Es
          clear Es
          by_cases c19 : Ee = true
          ·subst c19
           have H1 : (aI.l0 k2 (wrap64 (Al + 1)) Bg Ap BJ Aq) = some r:=by rw [if_pos rfl] at H;exact H
           clear H
           have H:=H1
           clear H1
           have H':=Aside0.mk H
           clear H
           have Fa:=Cv.out
           have Fb:=Cw.out
           have Et : wr.cell? ⟨AA,0,none⟩ = some (.int .u64 Bg):=(ah Au.out 0).trans rfl
           have Eu : wr.cell? ⟨AA,1,none⟩ = some (.slice CS Ap.length CJ):=(ah Au.out 1).trans rfl
           have Ew:=au Au.out 0
           have Ey:=au Au.out 1
           try go_wp2
           have Di:=Aside0.mk (aG Au.out)
           have Dj:=Aside0.mk (aG Aw.out)
           have Dk:=Aside0.mk (aZ HB.out)
           clear Au
           clear Aw
           clear HB
           have Au:=Di
           have Aw:=Dj
           have HB:=Dk
           clear Di Dj Dk
           have Db : 0 ≤ (Al : Int):=of_decide_eq_true (by first|(with_reducible assumption)|assumption)
           have Dc : Al < (Ap.length : Int):=of_decide_eq_true (by first|(with_reducible assumption)|assumption)
           obtain ⟨Am,CK,CO,D7,AB,AJ,AL,AO,AP,AQ,Ay,Cz,CB⟩:=iM Dq.out Al Db Dc
           have Bl:=Ay
           have Bn:=AQ
           have Bo:=AP
           have Bp:=AO
           have Bq:=AL
           have Br:=AJ
           have Bt:=AB
           cases D7
           replace AB:=(HB.out.cell (World.block_lt_of_cell? w _ AB)).trans AB
           replace AJ:=(HB.out.cell (World.block_lt_of_cell? w _ AJ)).trans AJ
           replace AL:=(HB.out.cell (World.block_lt_of_cell? w _ AL)).trans AL
           replace AO:=(HB.out.cell (World.block_lt_of_cell? w _ AO)).trans AO
           replace AP:=(HB.out.cell (World.block_lt_of_cell? w _ AP)).trans AP
           replace AQ:=(HB.out.cell (World.block_lt_of_cell? w _ AQ)).trans AQ
           replace Ay:=(HB.out.cell (World.block_lt_of_cell? w _ Ay)).trans Ay
           have CU:=Aside0.mk CB
           have DR:=Aside0.mk Cz
           clear CB Cz
           replace Db:=eq_true Db
           replace Dc:=eq_true Dc
           have Df : 0 ≤ (Al : Int):=of_decide_eq_true (by first|(with_reducible assumption)|assumption)
           have Dh : Al < (Aq.length : Int):=of_decide_eq_true (by first|(with_reducible assumption)|assumption)
           obtain ⟨Ao,CP,CQ,e278,AU,AV,AX,AY,AZ,Bf,Az,CF,CG⟩:=iM Dr.out Al Df Dh
           have Bu:=Az
           have Bv:=Bf
           have Bw:=AZ
           have Bz:=AY
           have BD:=AX
           have BF:=AV
           have BG:=AU
           cases e278
           replace AU:=(HB.out.cell (World.block_lt_of_cell? w _ AU)).trans AU
           replace AV:=(HB.out.cell (World.block_lt_of_cell? w _ AV)).trans AV
           replace AX:=(HB.out.cell (World.block_lt_of_cell? w _ AX)).trans AX
           replace AY:=(HB.out.cell (World.block_lt_of_cell? w _ AY)).trans AY
           replace AZ:=(HB.out.cell (World.block_lt_of_cell? w _ AZ)).trans AZ
           replace Bf:=(HB.out.cell (World.block_lt_of_cell? w _ Bf)).trans Bf
           replace Az:=(HB.out.cell (World.block_lt_of_cell? w _ Az)).trans Az
           have CV:=Aside0.mk CG
           have DT:=Aside0.mk CF
           clear CG CF
           replace Df:=eq_true Df
           replace Dh:=eq_true Dh
           have Du : 0 ≤ (Al : Int):=of_decide_eq_true (by first|(with_reducible assumption)|assumption)
           have Dv : Al < (Ap.length : Int):=of_decide_eq_true (by first|(with_reducible assumption)|assumption)
           obtain ⟨D8,Em,En,e279,BK,BL,BN,BO,BP,BQ,Bh,CW,CX⟩:=iM Dq.out Al Du Dv
           have Cc:=Bh
           have Ce:=BQ
           have Cg:=BP
           have Ch:=BO
           have Ci:=BN
           have Cj:=BL
           have Ck:=BK
           obtain rfl : Am = D8:=(by injection e279)
           replace BK:=(HB.out.cell (World.block_lt_of_cell? w _ BK)).trans BK
           replace BL:=(HB.out.cell (World.block_lt_of_cell? w _ BL)).trans BL
           replace BN:=(HB.out.cell (World.block_lt_of_cell? w _ BN)).trans BN
           replace BO:=(HB.out.cell (World.block_lt_of_cell? w _ BO)).trans BO
           replace BP:=(HB.out.cell (World.block_lt_of_cell? w _ BP)).trans BP
           replace BQ:=(HB.out.cell (World.block_lt_of_cell? w _ BQ)).trans BQ
           replace Bh:=(HB.out.cell (World.block_lt_of_cell? w _ Bh)).trans Bh
           have CY:=Aside0.mk CX
           have Dn:=Aside0.mk CW
           clear CX CW
           replace Du:=eq_true Du
           replace Dv:=eq_true Dv
           have ea_:=Option.some.inj (Ay.symm.trans Bh)
           injection ea_ with ea_ en_ ec_
           subst ea_
           subst ec_
           clear en_
           have Dw : 0 ≤ (Al : Int):=of_decide_eq_true (by first|(with_reducible assumption)|assumption)
           have Dx : Al < (Aq.length : Int):=of_decide_eq_true (by first|(with_reducible assumption)|assumption)
           obtain ⟨D9,Eo,Ep,e280,BR,BS,BU,BX,BZ,Ca,Bj,CZ,C8⟩:=iM Dr.out Al Dw Dx
           have Cm:=Bj
           have Cn:=Ca
           have Co:=BZ
           have Cq:=BX
           have Cr:=BU
           have Ct:=BS
           have Cu:=BR
           obtain rfl : Ao = D9:=(by injection e280)
           replace BR:=(HB.out.cell (World.block_lt_of_cell? w _ BR)).trans BR
           replace BS:=(HB.out.cell (World.block_lt_of_cell? w _ BS)).trans BS
           replace BU:=(HB.out.cell (World.block_lt_of_cell? w _ BU)).trans BU
           replace BX:=(HB.out.cell (World.block_lt_of_cell? w _ BX)).trans BX
           replace BZ:=(HB.out.cell (World.block_lt_of_cell? w _ BZ)).trans BZ
           replace Ca:=(HB.out.cell (World.block_lt_of_cell? w _ Ca)).trans Ca
           replace Bj:=(HB.out.cell (World.block_lt_of_cell? w _ Bj)).trans Bj
           have C9:=Aside0.mk C8
           have Dp:=Aside0.mk CZ
           clear C8 CZ
           replace Dw:=eq_true Dw
           replace Dx:=eq_true Dx
           have ea_:=Option.some.inj (Az.symm.trans Bj)
           injection ea_ with ea_ en_ ec_
           subst ea_
           subst ec_
           clear en_
           refine fu (n:=29) (S:=fun w'=>w'.cell? ⟨AA,0,none⟩ = some (.int .u64 Bg) ∧ w'.cell? ⟨AA,1,none⟩ = some (.slice (some Am) Ap.length CJ) ∧ w'.cell? ⟨Cb,0,none⟩ = some (.int .u64 BJ) ∧ w'.cell? ⟨Cb,1,none⟩ = some (.slice (some Ao) Aq.length Da) ∧ w'.cell? (Am.add ((Al).toNat * 7)) = some (.string ((aK Ap Al).f0)) ∧ w'.cell? ⟨(Am.add ((Al).toNat * 7)).block,(Am.add ((Al).toNat * 7)).off + 1,none⟩ = some (.string ((aK Ap Al).f1.f0)) ∧ w'.cell? ⟨(Am.add ((Al).toNat * 7)).block,(Am.add ((Al).toNat * 7)).off + 2,none⟩ = some (.string ((aK Ap Al).f1.f1)) ∧ w'.cell? ⟨(Am.add ((Al).toNat * 7)).block,(Am.add ((Al).toNat * 7)).off + 3,none⟩ = some (.int .i64 ((aK Ap Al).f1.f2)) ∧ w'.cell? ⟨(Am.add ((Al).toNat * 7)).block,(Am.add ((Al).toNat * 7)).off + 4,none⟩ = some (.int .i64 ((aK Ap Al).f1.f3)) ∧ w'.cell? ⟨(Am.add ((Al).toNat * 7)).block,(Am.add ((Al).toNat * 7)).off + 5,none⟩ = some (.bool ((aK Ap Al).f1.f4)) ∧ w'.cell? ⟨(Am.add ((Al).toNat * 7)).block,(Am.add ((Al).toNat * 7)).off + 6,none⟩ = some (.slice CK ((aK Ap Al).f1.f5).length CO) ∧ w'.cell? (Ao.add ((Al).toNat * 7)) = some (.string ((aK Aq Al).f0)) ∧ w'.cell? ⟨(Ao.add ((Al).toNat * 7)).block,(Ao.add ((Al).toNat * 7)).off + 1,none⟩ = some (.string ((aK Aq Al).f1.f0)) ∧ w'.cell? ⟨(Ao.add ((Al).toNat * 7)).block,(Ao.add ((Al).toNat * 7)).off + 2,none⟩ = some (.string ((aK Aq Al).f1.f1)) ∧ w'.cell? ⟨(Ao.add ((Al).toNat * 7)).block,(Ao.add ((Al).toNat * 7)).off + 3,none⟩ = some (.int .i64 ((aK Aq Al).f1.f2)) ∧ w'.cell? ⟨(Ao.add ((Al).toNat * 7)).block,(Ao.add ((Al).toNat * 7)).off + 4,none⟩ = some (.int .i64 ((aK Aq Al).f1.f3)) ∧ w'.cell? ⟨(Ao.add ((Al).toNat * 7)).block,(Ao.add ((Al).toNat * 7)).off + 5,none⟩ = some (.bool ((aK Aq Al).f1.f4)) ∧ w'.cell? ⟨(Ao.add ((Al).toNat * 7)).block,(Ao.add ((Al).toNat * 7)).off + 6,none⟩ = some (.slice CP ((aK Aq Al).f1.f5).length CQ) ∧ w'.cell? (Am.add ((Al).toNat * 7)) = some (.string ((aK Ap Al).f0)) ∧ w'.cell? ⟨(Am.add ((Al).toNat * 7)).block,(Am.add ((Al).toNat * 7)).off + 1,none⟩ = some (.string ((aK Ap Al).f1.f0)) ∧ w'.cell? ⟨(Am.add ((Al).toNat * 7)).block,(Am.add ((Al).toNat * 7)).off + 2,none⟩ = some (.string ((aK Ap Al).f1.f1)) ∧ w'.cell? ⟨(Am.add ((Al).toNat * 7)).block,(Am.add ((Al).toNat * 7)).off + 3,none⟩ = some (.int .i64 ((aK Ap Al).f1.f2)) ∧ w'.cell? ⟨(Am.add ((Al).toNat * 7)).block,(Am.add ((Al).toNat * 7)).off + 4,none⟩ = some (.int .i64 ((aK Ap Al).f1.f3)) ∧ w'.cell? ⟨(Am.add ((Al).toNat * 7)).block,(Am.add ((Al).toNat * 7)).off + 5,none⟩ = some (.bool ((aK Ap Al).f1.f4)) ∧ w'.cell? ⟨(Am.add ((Al).toNat * 7)).block,(Am.add ((Al).toNat * 7)).off + 6,none⟩ = some (.slice CK ((aK Ap Al).f1.f5).length CO) ∧ w'.cell? (Ao.add ((Al).toNat * 7)) = some (.string ((aK Aq Al).f0)) ∧ w'.cell? ⟨(Ao.add ((Al).toNat * 7)).block,(Ao.add ((Al).toNat * 7)).off + 1,none⟩ = some (.string ((aK Aq Al).f1.f0)) ∧ w'.cell? ⟨(Ao.add ((Al).toNat * 7)).block,(Ao.add ((Al).toNat * 7)).off + 2,none⟩ = some (.string ((aK Aq Al).f1.f1)) ∧ w'.cell? ⟨(Ao.add ((Al).toNat * 7)).block,(Ao.add ((Al).toNat * 7)).off + 3,none⟩ = some (.int .i64 ((aK Aq Al).f1.f2)) ∧ w'.cell? ⟨(Ao.add ((Al).toNat * 7)).block,(Ao.add ((Al).toNat * 7)).off + 4,none⟩ = some (.int .i64 ((aK Aq Al).f1.f3)) ∧ w'.cell? ⟨(Ao.add ((Al).toNat * 7)).block,(Ao.add ((Al).toNat * 7)).off + 5,none⟩ = some (.bool ((aK Aq Al).f1.f4)) ∧ w'.cell? ⟨(Ao.add ((Al).toNat * 7)).block,(Ao.add ((Al).toNat * 7)).off + 6,none⟩ = some (.slice CP ((aK Aq Al).f1.f5).length CQ)) (ds:=[]) #[O,O,O,O,O,O,O,O,O,O,O,O,O,O,O,O,O,O,O,O,O,O,O,O,O,O,O,O,O] (by kernel_rfl) rfl rfl ⟨(ah Au.out 0).trans rfl,(ah Au.out 1).trans rfl,(ah Aw.out 0).trans rfl,(ah Aw.out 1).trans rfl,((HB.out.cell (World.block_lt_of_cell? w _ Bt)).trans Bt),((HB.out.cell (World.block_lt_of_cell? w _ Br)).trans Br),((HB.out.cell (World.block_lt_of_cell? w _ Bq)).trans Bq),((HB.out.cell (World.block_lt_of_cell? w _ Bp)).trans Bp),((HB.out.cell (World.block_lt_of_cell? w _ Bo)).trans Bo),((HB.out.cell (World.block_lt_of_cell? w _ Bn)).trans Bn),((HB.out.cell (World.block_lt_of_cell? w _ Bl)).trans Bl),((HB.out.cell (World.block_lt_of_cell? w _ BG)).trans BG),((HB.out.cell (World.block_lt_of_cell? w _ BF)).trans BF),((HB.out.cell (World.block_lt_of_cell? w _ BD)).trans BD),((HB.out.cell (World.block_lt_of_cell? w _ Bz)).trans Bz),((HB.out.cell (World.block_lt_of_cell? w _ Bw)).trans Bw),((HB.out.cell (World.block_lt_of_cell? w _ Bv)).trans Bv),((HB.out.cell (World.block_lt_of_cell? w _ Bu)).trans Bu),((HB.out.cell (World.block_lt_of_cell? w _ Ck)).trans Ck),((HB.out.cell (World.block_lt_of_cell? w _ Cj)).trans Cj),((HB.out.cell (World.block_lt_of_cell? w _ Ci)).trans Ci),((HB.out.cell (World.block_lt_of_cell? w _ Ch)).trans Ch),((HB.out.cell (World.block_lt_of_cell? w _ Cg)).trans Cg),((HB.out.cell (World.block_lt_of_cell? w _ Ce)).trans Ce),((HB.out.cell (World.block_lt_of_cell? w _ Cc)).trans Cc),((HB.out.cell (World.block_lt_of_cell? w _ Cu)).trans Cu),((HB.out.cell (World.block_lt_of_cell? w _ Ct)).trans Ct),((HB.out.cell (World.block_lt_of_cell? w _ Cr)).trans Cr),((HB.out.cell (World.block_lt_of_cell? w _ Cq)).trans Cq),((HB.out.cell (World.block_lt_of_cell? w _ Co)).trans Co),((HB.out.cell (World.block_lt_of_cell? w _ Cn)).trans Cn),((HB.out.cell (World.block_lt_of_cell? w _ Cm)).trans Cm)⟩ (fun hHeld=>?_);refine dR aI.qO aI.mW (fun HT_ HW_=>?_)
           generalize wr.drew = Fz at Au Aw HB CU CV CY C9 AB AJ AL AO AP AQ Ay AU AV AX AY AZ Bf Az BK BL BN BO BP BQ Bh BR BS BU BX BZ Ca Bj hHeld ⊢
           refine pu_ 0 27 #[I,O,O,O,O,O,O,O,O,O,O,O,O,O,O,O,O,O,O,O,O,O,O,O,O,O,O,O,O] HT_.out ?_
           refine pu_ 2 29 #[I,O,I,O,O,O,O,O,O,O,O,O,O,O,O,O,O,O,O,O,O,O,O,O,O,O,O,O,O] HT_.out ?_
           refine pu_ 6 33 #[I,O,I,O,O,O,I,O,O,O,O,O,O,O,O,O,O,O,O,O,O,O,O,O,O,O,O,O,O] HT_.out ?_
           refine pu_ 8 35 #[I,O,I,O,O,O,I,O,I,O,O,O,O,O,O,O,O,O,O,O,O,O,O,O,O,O,O,O,O] HT_.out ?_
           refine ta_ 1 28 #[I,I,I,O,O,O,I,O,I,O,O,O,O,O,O,O,O,O,O,O,O,O,O,O,O,O,O,O,O] HT_.out HW_.out hHeld ?_
           refine pu_ 3 30 #[I,I,I,I,O,O,I,O,I,O,O,O,O,O,O,O,O,O,O,O,O,O,O,O,O,O,O,O,O] HT_.out ?_
           refine pu_ 4 31 #[I,I,I,I,I,O,I,O,I,O,O,O,O,O,O,O,O,O,O,O,O,O,O,O,O,O,O,O,O] HT_.out ?_
           refine ta_ 5 32 #[I,I,I,I,I,I,I,O,I,O,O,O,O,O,O,O,O,O,O,O,O,O,O,O,O,O,O,O,O] HT_.out HW_.out hHeld ?_
           refine ta_ 7 34 #[I,I,I,I,I,I,I,I,I,O,O,O,O,O,O,O,O,O,O,O,O,O,O,O,O,O,O,O,O] HT_.out HW_.out hHeld ?_
           refine pu_ 9 36 #[I,I,I,I,I,I,I,I,I,I,O,O,O,O,O,O,O,O,O,O,O,O,O,O,O,O,O,O,O] HT_.out ?_
           refine pu_ 10 37 #[I,I,I,I,I,I,I,I,I,I,I,O,O,O,O,O,O,O,O,O,O,O,O,O,O,O,O,O,O] HT_.out ?_
           refine ta_ 11 38 #[I,I,I,I,I,I,I,I,I,I,I,I,O,O,O,O,O,O,O,O,O,O,O,O,O,O,O,O,O] HT_.out HW_.out hHeld ?_
           refine pu_ 12 39 #[I,I,I,I,I,I,I,I,I,I,I,I,I,O,O,O,O,O,O,O,O,O,O,O,O,O,O,O,O] HT_.out ?_
           refine pu_ 13 40 #[I,I,I,I,I,I,I,I,I,I,I,I,I,I,O,O,O,O,O,O,O,O,O,O,O,O,O,O,O] HT_.out ?_
           refine pu_ 14 41 #[I,I,I,I,I,I,I,I,I,I,I,I,I,I,I,O,O,O,O,O,O,O,O,O,O,O,O,O,O] HT_.out ?_
           refine pu_ 16 43 #[I,I,I,I,I,I,I,I,I,I,I,I,I,I,I,O,I,O,O,O,O,O,O,O,O,O,O,O,O] HT_.out ?_
           refine pu_ 20 47 #[I,I,I,I,I,I,I,I,I,I,I,I,I,I,I,O,I,O,O,O,I,O,O,O,O,O,O,O,O] HT_.out ?_
           refine pu_ 22 49 #[I,I,I,I,I,I,I,I,I,I,I,I,I,I,I,O,I,O,O,O,I,O,I,O,O,O,O,O,O] HT_.out ?_
           refine ta_ 15 42 #[I,I,I,I,I,I,I,I,I,I,I,I,I,I,I,I,I,O,O,O,I,O,I,O,O,O,O,O,O] HT_.out HW_.out hHeld ?_
           refine pu_ 17 44 #[I,I,I,I,I,I,I,I,I,I,I,I,I,I,I,I,I,I,O,O,I,O,I,O,O,O,O,O,O] HT_.out ?_
           refine pu_ 18 45 #[I,I,I,I,I,I,I,I,I,I,I,I,I,I,I,I,I,I,I,O,I,O,I,O,O,O,O,O,O] HT_.out ?_
           refine ta_ 19 46 #[I,I,I,I,I,I,I,I,I,I,I,I,I,I,I,I,I,I,I,I,I,O,I,O,O,O,O,O,O] HT_.out HW_.out hHeld ?_
           refine ta_ 21 48 #[I,I,I,I,I,I,I,I,I,I,I,I,I,I,I,I,I,I,I,I,I,I,I,O,O,O,O,O,O] HT_.out HW_.out hHeld ?_
           refine pu_ 23 50 #[I,I,I,I,I,I,I,I,I,I,I,I,I,I,I,I,I,I,I,I,I,I,I,I,O,O,O,O,O] HT_.out ?_
           refine pu_ 24 51 #[I,I,I,I,I,I,I,I,I,I,I,I,I,I,I,I,I,I,I,I,I,I,I,I,I,O,O,O,O] HT_.out ?_
           refine ta_ 25 52 #[I,I,I,I,I,I,I,I,I,I,I,I,I,I,I,I,I,I,I,I,I,I,I,I,I,I,O,O,O] HT_.out HW_.out hHeld ?_
           refine gG (i:=26) (N:=some 53) #[I,I,I,I,I,I,I,I,I,I,I,I,I,I,I,I,I,I,I,I,I,I,I,I,I,I,I,O,O] rfl rfl (dw HT_.out (by kernel_rfl)) (by decide) (fun K hK=>?_)
           refine eZ Tryd.func12 (by kernel_rfl) rfl #[.agg #[.string ((aK Ap Al).f1.f0),.string ((aK Ap Al).f1.f1),.int .i64 ((aK Ap Al).f1.f2),.int .i64 ((aK Ap Al).f1.f3),.bool ((aK Ap Al).f1.f4),.slice CK ((aK Ap Al).f1.f5).length CO],.agg #[.string ((aK Aq Al).f1.f0),.string ((aK Aq Al).f1.f1),.int .i64 ((aK Aq Al).f1.f2),.int .i64 ((aK Aq Al).f1.f3),.bool ((aK Aq Al).f1.f4),.slice CP ((aK Aq Al).f1.f5).length CQ]] (by rfl) rfl rfl (by (try simp only [List.map_toArray,List.map_cons,List.map_nil]);first|done|rfl|(simp only [List.length_drop,List.length_take];rfl)) ?_
           with_reducible refine (bB.calls k2 ((aK Ap Al).f1.f0) ((aK Ap Al).f1.f1) ((aK Ap Al).f1.f2) ((aK Ap Al).f1.f3) ((aK Ap Al).f1.f4) _ _ ((aK Ap Al).f1.f5) ((aK Aq Al).f1.f0) ((aK Aq Al).f1.f1) ((aK Aq Al).f1.f2) ((aK Aq Al).f1.f3) ((aK Aq Al).f1.f4) _ _ ((aK Aq Al).f1.f5) true _ ?Ea ?Eb ?Ec ?Ed E9.out).mono ?_
           (case Ea=>repeat (first|exact (Kd.bN CY.out HB.out)|(with_reducible refine Kd.bC ?_ _)|(with_reducible refine Kd.bO ?_ _)|(with_reducible refine Kd.bW ?_)))
           (case Eb=>exact Dn.out)
           (case Ec=>repeat (first|exact (Kd.bN C9.out HB.out)|(with_reducible refine Kd.bC ?_ _)|(with_reducible refine Kd.bO ?_ _)|(with_reducible refine Kd.bW ?_)))
           (case Ed=>exact Dp.out)
           rintro e FB ⟨rfl,hb⟩
           refine ⟨_,rfl,?_⟩
           have Di:=Aside0.mk (aM (g:=AA) (o:=.cells #[.int .u64 Bg,.slice (some Am) Ap.length CJ] 68 (0,0)) (bk_ Au.out) hb)
           have Dj:=Aside0.mk (aM (g:=Cb) (o:=.cells #[.int .u64 BJ,.slice (some Ao) Aq.length Da] 68 (0,0)) (bk_ Aw.out) hb)
           have Dk:=Aside0.mk (aJ hb_ hb)
           clear Au
           clear Aw
           clear HB
           have Au:=Di
           have Aw:=Dj
           have HB:=Dk
           clear Di Dj Dk
           (try clear hb)
           (try clear hb2)
           (try clear hk)
           (try clear hi)
           refine hK.out _ _ ⟨(ah Au.out 0).trans rfl,(ah Au.out 1).trans rfl,(ah Aw.out 0).trans rfl,(ah Aw.out 1).trans rfl,((HB.out.cell (World.block_lt_of_cell? w _ Bt)).trans Bt),((HB.out.cell (World.block_lt_of_cell? w _ Br)).trans Br),((HB.out.cell (World.block_lt_of_cell? w _ Bq)).trans Bq),((HB.out.cell (World.block_lt_of_cell? w _ Bp)).trans Bp),((HB.out.cell (World.block_lt_of_cell? w _ Bo)).trans Bo),((HB.out.cell (World.block_lt_of_cell? w _ Bn)).trans Bn),((HB.out.cell (World.block_lt_of_cell? w _ Bl)).trans Bl),((HB.out.cell (World.block_lt_of_cell? w _ BG)).trans BG),((HB.out.cell (World.block_lt_of_cell? w _ BF)).trans BF),((HB.out.cell (World.block_lt_of_cell? w _ BD)).trans BD),((HB.out.cell (World.block_lt_of_cell? w _ Bz)).trans Bz),((HB.out.cell (World.block_lt_of_cell? w _ Bw)).trans Bw),((HB.out.cell (World.block_lt_of_cell? w _ Bv)).trans Bv),((HB.out.cell (World.block_lt_of_cell? w _ Bu)).trans Bu),((HB.out.cell (World.block_lt_of_cell? w _ Ck)).trans Ck),((HB.out.cell (World.block_lt_of_cell? w _ Cj)).trans Cj),((HB.out.cell (World.block_lt_of_cell? w _ Ci)).trans Ci),((HB.out.cell (World.block_lt_of_cell? w _ Ch)).trans Ch),((HB.out.cell (World.block_lt_of_cell? w _ Cg)).trans Cg),((HB.out.cell (World.block_lt_of_cell? w _ Ce)).trans Ce),((HB.out.cell (World.block_lt_of_cell? w _ Cc)).trans Cc),((HB.out.cell (World.block_lt_of_cell? w _ Cu)).trans Cu),((HB.out.cell (World.block_lt_of_cell? w _ Ct)).trans Ct),((HB.out.cell (World.block_lt_of_cell? w _ Cr)).trans Cr),((HB.out.cell (World.block_lt_of_cell? w _ Cq)).trans Cq),((HB.out.cell (World.block_lt_of_cell? w _ Co)).trans Co),((HB.out.cell (World.block_lt_of_cell? w _ Cn)).trans Cn),((HB.out.cell (World.block_lt_of_cell? w _ Cm)).trans Cm)⟩ (fun hHeld=>?_)
           clear hK K
           refine dU (a':=?_) ?_ ?_
           rotate_left
           ·show Act.put _ (some 53) _ = _
            simp only [Act.put,List.setIfInBounds_toArray,List.set_cons_zero,List.set_cons_succ,bH,bI]
            rfl
           refine pu_ 27 54 #[I,I,I,I,I,I,I,I,I,I,I,I,I,I,I,I,I,I,I,I,I,I,I,I,I,I,I,I,O] HT_.out ?_
           refine pu_ 28 55 #[I,I,I,I,I,I,I,I,I,I,I,I,I,I,I,I,I,I,I,I,I,I,I,I,I,I,I,I,I] HT_.out ?_
           refine gJ (eH HT_.out (by kernel_rfl)) ?_
           try go_wp2
           go_roundg k2
           case measure=>have:=HJ2.out;have:=E8.out;omega
           case rel=>exact ⟨(wrap64 (Al + 1)),(by first|rfl|(simp;done)|(simp [*];done)),H',⟨by have:=HJ2.out;have:=E8.out;omega⟩,⟨by (with_reducible repeat (first|apply aC|apply aG|apply aH));exact Au.out⟩,⟨by (with_reducible repeat (first|apply aC|apply aG|apply aH));exact Aw.out⟩,⟨hb_⟩⟩
          ·replace c19:=Bool.eq_false_iff.mpr c19
           subst c19
           have H1 : (some false) = some r:=by rw [if_neg (show ¬ (false = true) by decide)] at H;exact H
           clear H
           have H:=H1
           clear H1
           obtain rfl:=Option.some.inj H
           have Fe:=Cv.out
           have Fg:=Cw.out
           have Ez : wr.cell? ⟨AA,0,none⟩ = some (.int .u64 Bg):=(ah Au.out 0).trans rfl
           have EA : wr.cell? ⟨AA,1,none⟩ = some (.slice CS Ap.length CJ):=(ah Au.out 1).trans rfl
           have EB:=au Au.out 0
           have EC:=au Au.out 1
           try go_wp2
           have Di:=Aside0.mk (aG Au.out)
           have Dj:=Aside0.mk (aG Aw.out)
           have Dk:=Aside0.mk (aZ HB.out)
           clear Au
           clear Aw
           clear HB
           have Au:=Di
           have Aw:=Dj
           have HB:=Dk
           clear Di Dj Dk
           have Db : 0 ≤ (Al : Int):=of_decide_eq_true (by first|(with_reducible assumption)|assumption)
           have Dc : Al < (Ap.length : Int):=of_decide_eq_true (by first|(with_reducible assumption)|assumption)
           obtain ⟨Am,CK,CO,D7,AB,AJ,AL,AO,AP,AQ,Ay,Cz,CB⟩:=iM Dq.out Al Db Dc
           have Bl:=Ay
           have Bn:=AQ
           have Bo:=AP
           have Bp:=AO
           have Bq:=AL
           have Br:=AJ
           have Bt:=AB
           cases D7
           replace AB:=(HB.out.cell (World.block_lt_of_cell? w _ AB)).trans AB
           replace AJ:=(HB.out.cell (World.block_lt_of_cell? w _ AJ)).trans AJ
           replace AL:=(HB.out.cell (World.block_lt_of_cell? w _ AL)).trans AL
           replace AO:=(HB.out.cell (World.block_lt_of_cell? w _ AO)).trans AO
           replace AP:=(HB.out.cell (World.block_lt_of_cell? w _ AP)).trans AP
           replace AQ:=(HB.out.cell (World.block_lt_of_cell? w _ AQ)).trans AQ
           replace Ay:=(HB.out.cell (World.block_lt_of_cell? w _ Ay)).trans Ay
           have CU:=Aside0.mk CB
           have DR:=Aside0.mk Cz
           clear CB Cz
           replace Db:=eq_true Db
           replace Dc:=eq_true Dc
           have Df : 0 ≤ (Al : Int):=of_decide_eq_true (by first|(with_reducible assumption)|assumption)
           have Dh : Al < (Aq.length : Int):=of_decide_eq_true (by first|(with_reducible assumption)|assumption)
           obtain ⟨Ao,CP,CQ,e278,AU,AV,AX,AY,AZ,Bf,Az,CF,CG⟩:=iM Dr.out Al Df Dh
           have Bu:=Az
           have Bv:=Bf
           have Bw:=AZ
           have Bz:=AY
           have BD:=AX
           have BF:=AV
           have BG:=AU
           cases e278
           replace AU:=(HB.out.cell (World.block_lt_of_cell? w _ AU)).trans AU
           replace AV:=(HB.out.cell (World.block_lt_of_cell? w _ AV)).trans AV
           replace AX:=(HB.out.cell (World.block_lt_of_cell? w _ AX)).trans AX
           replace AY:=(HB.out.cell (World.block_lt_of_cell? w _ AY)).trans AY
           replace AZ:=(HB.out.cell (World.block_lt_of_cell? w _ AZ)).trans AZ
           replace Bf:=(HB.out.cell (World.block_lt_of_cell? w _ Bf)).trans Bf
           replace Az:=(HB.out.cell (World.block_lt_of_cell? w _ Az)).trans Az
           have CV:=Aside0.mk CG
           have DT:=Aside0.mk CF
           clear CG CF
           replace Df:=eq_true Df
           replace Dh:=eq_true Dh
           have Du : 0 ≤ (Al : Int):=of_decide_eq_true (by first|(with_reducible assumption)|assumption)
           have Dv : Al < (Ap.length : Int):=of_decide_eq_true (by first|(with_reducible assumption)|assumption)
           obtain ⟨D8,Em,En,e279,BK,BL,BN,BO,BP,BQ,Bh,CW,CX⟩:=iM Dq.out Al Du Dv
           have Cc:=Bh
           have Ce:=BQ
           have Cg:=BP
           have Ch:=BO
           have Ci:=BN
           have Cj:=BL
           have Ck:=BK
           obtain rfl : Am = D8:=(by injection e279)
           replace BK:=(HB.out.cell (World.block_lt_of_cell? w _ BK)).trans BK
           replace BL:=(HB.out.cell (World.block_lt_of_cell? w _ BL)).trans BL
           replace BN:=(HB.out.cell (World.block_lt_of_cell? w _ BN)).trans BN
           replace BO:=(HB.out.cell (World.block_lt_of_cell? w _ BO)).trans BO
           replace BP:=(HB.out.cell (World.block_lt_of_cell? w _ BP)).trans BP
           replace BQ:=(HB.out.cell (World.block_lt_of_cell? w _ BQ)).trans BQ
           replace Bh:=(HB.out.cell (World.block_lt_of_cell? w _ Bh)).trans Bh
           have CY:=Aside0.mk CX
           have Dn:=Aside0.mk CW
           clear CX CW
           replace Du:=eq_true Du
           replace Dv:=eq_true Dv
           have ea_:=Option.some.inj (Ay.symm.trans Bh)
           injection ea_ with ea_ en_ ec_
           subst ea_
           subst ec_
           clear en_
           have Dw : 0 ≤ (Al : Int):=of_decide_eq_true (by first|(with_reducible assumption)|assumption)
           have Dx : Al < (Aq.length : Int):=of_decide_eq_true (by first|(with_reducible assumption)|assumption)
           obtain ⟨D9,Eo,Ep,e280,BR,BS,BU,BX,BZ,Ca,Bj,CZ,C8⟩:=iM Dr.out Al Dw Dx
           have Cm:=Bj
           have Cn:=Ca
           have Co:=BZ
           have Cq:=BX
           have Cr:=BU
           have Ct:=BS
           have Cu:=BR
           obtain rfl : Ao = D9:=(by injection e280)
           replace BR:=(HB.out.cell (World.block_lt_of_cell? w _ BR)).trans BR
           replace BS:=(HB.out.cell (World.block_lt_of_cell? w _ BS)).trans BS
           replace BU:=(HB.out.cell (World.block_lt_of_cell? w _ BU)).trans BU
           replace BX:=(HB.out.cell (World.block_lt_of_cell? w _ BX)).trans BX
           replace BZ:=(HB.out.cell (World.block_lt_of_cell? w _ BZ)).trans BZ
           replace Ca:=(HB.out.cell (World.block_lt_of_cell? w _ Ca)).trans Ca
           replace Bj:=(HB.out.cell (World.block_lt_of_cell? w _ Bj)).trans Bj
           have C9:=Aside0.mk C8
           have Dp:=Aside0.mk CZ
           clear C8 CZ
           replace Dw:=eq_true Dw
           replace Dx:=eq_true Dx
           have ea_:=Option.some.inj (Az.symm.trans Bj)
           injection ea_ with ea_ en_ ec_
           subst ea_
           subst ec_
           clear en_
           refine fu (n:=29) (S:=fun w'=>w'.cell? ⟨AA,0,none⟩ = some (.int .u64 Bg) ∧ w'.cell? ⟨AA,1,none⟩ = some (.slice (some Am) Ap.length CJ) ∧ w'.cell? ⟨Cb,0,none⟩ = some (.int .u64 BJ) ∧ w'.cell? ⟨Cb,1,none⟩ = some (.slice (some Ao) Aq.length Da) ∧ w'.cell? (Am.add ((Al).toNat * 7)) = some (.string ((aK Ap Al).f0)) ∧ w'.cell? ⟨(Am.add ((Al).toNat * 7)).block,(Am.add ((Al).toNat * 7)).off + 1,none⟩ = some (.string ((aK Ap Al).f1.f0)) ∧ w'.cell? ⟨(Am.add ((Al).toNat * 7)).block,(Am.add ((Al).toNat * 7)).off + 2,none⟩ = some (.string ((aK Ap Al).f1.f1)) ∧ w'.cell? ⟨(Am.add ((Al).toNat * 7)).block,(Am.add ((Al).toNat * 7)).off + 3,none⟩ = some (.int .i64 ((aK Ap Al).f1.f2)) ∧ w'.cell? ⟨(Am.add ((Al).toNat * 7)).block,(Am.add ((Al).toNat * 7)).off + 4,none⟩ = some (.int .i64 ((aK Ap Al).f1.f3)) ∧ w'.cell? ⟨(Am.add ((Al).toNat * 7)).block,(Am.add ((Al).toNat * 7)).off + 5,none⟩ = some (.bool ((aK Ap Al).f1.f4)) ∧ w'.cell? ⟨(Am.add ((Al).toNat * 7)).block,(Am.add ((Al).toNat * 7)).off + 6,none⟩ = some (.slice CK ((aK Ap Al).f1.f5).length CO) ∧ w'.cell? (Ao.add ((Al).toNat * 7)) = some (.string ((aK Aq Al).f0)) ∧ w'.cell? ⟨(Ao.add ((Al).toNat * 7)).block,(Ao.add ((Al).toNat * 7)).off + 1,none⟩ = some (.string ((aK Aq Al).f1.f0)) ∧ w'.cell? ⟨(Ao.add ((Al).toNat * 7)).block,(Ao.add ((Al).toNat * 7)).off + 2,none⟩ = some (.string ((aK Aq Al).f1.f1)) ∧ w'.cell? ⟨(Ao.add ((Al).toNat * 7)).block,(Ao.add ((Al).toNat * 7)).off + 3,none⟩ = some (.int .i64 ((aK Aq Al).f1.f2)) ∧ w'.cell? ⟨(Ao.add ((Al).toNat * 7)).block,(Ao.add ((Al).toNat * 7)).off + 4,none⟩ = some (.int .i64 ((aK Aq Al).f1.f3)) ∧ w'.cell? ⟨(Ao.add ((Al).toNat * 7)).block,(Ao.add ((Al).toNat * 7)).off + 5,none⟩ = some (.bool ((aK Aq Al).f1.f4)) ∧ w'.cell? ⟨(Ao.add ((Al).toNat * 7)).block,(Ao.add ((Al).toNat * 7)).off + 6,none⟩ = some (.slice CP ((aK Aq Al).f1.f5).length CQ) ∧ w'.cell? (Am.add ((Al).toNat * 7)) = some (.string ((aK Ap Al).f0)) ∧ w'.cell? ⟨(Am.add ((Al).toNat * 7)).block,(Am.add ((Al).toNat * 7)).off + 1,none⟩ = some (.string ((aK Ap Al).f1.f0)) ∧ w'.cell? ⟨(Am.add ((Al).toNat * 7)).block,(Am.add ((Al).toNat * 7)).off + 2,none⟩ = some (.string ((aK Ap Al).f1.f1)) ∧ w'.cell? ⟨(Am.add ((Al).toNat * 7)).block,(Am.add ((Al).toNat * 7)).off + 3,none⟩ = some (.int .i64 ((aK Ap Al).f1.f2)) ∧ w'.cell? ⟨(Am.add ((Al).toNat * 7)).block,(Am.add ((Al).toNat * 7)).off + 4,none⟩ = some (.int .i64 ((aK Ap Al).f1.f3)) ∧ w'.cell? ⟨(Am.add ((Al).toNat * 7)).block,(Am.add ((Al).toNat * 7)).off + 5,none⟩ = some (.bool ((aK Ap Al).f1.f4)) ∧ w'.cell? ⟨(Am.add ((Al).toNat * 7)).block,(Am.add ((Al).toNat * 7)).off + 6,none⟩ = some (.slice CK ((aK Ap Al).f1.f5).length CO) ∧ w'.cell? (Ao.add ((Al).toNat * 7)) = some (.string ((aK Aq Al).f0)) ∧ w'.cell? ⟨(Ao.add ((Al).toNat * 7)).block,(Ao.add ((Al).toNat * 7)).off + 1,none⟩ = some (.string ((aK Aq Al).f1.f0)) ∧ w'.cell? ⟨(Ao.add ((Al).toNat * 7)).block,(Ao.add ((Al).toNat * 7)).off + 2,none⟩ = some (.string ((aK Aq Al).f1.f1)) ∧ w'.cell? ⟨(Ao.add ((Al).toNat * 7)).block,(Ao.add ((Al).toNat * 7)).off + 3,none⟩ = some (.int .i64 ((aK Aq Al).f1.f2)) ∧ w'.cell? ⟨(Ao.add ((Al).toNat * 7)).block,(Ao.add ((Al).toNat * 7)).off + 4,none⟩ = some (.int .i64 ((aK Aq Al).f1.f3)) ∧ w'.cell? ⟨(Ao.add ((Al).toNat * 7)).block,(Ao.add ((Al).toNat * 7)).off + 5,none⟩ = some (.bool ((aK Aq Al).f1.f4)) ∧ w'.cell? ⟨(Ao.add ((Al).toNat * 7)).block,(Ao.add ((Al).toNat * 7)).off + 6,none⟩ = some (.slice CP ((aK Aq Al).f1.f5).length CQ)) (ds:=[]) #[O,O,O,O,O,O,O,O,O,O,O,O,O,O,O,O,O,O,O,O,O,O,O,O,O,O,O,O,O] (by kernel_rfl) rfl rfl ⟨(ah Au.out 0).trans rfl,(ah Au.out 1).trans rfl,(ah Aw.out 0).trans rfl,(ah Aw.out 1).trans rfl,((HB.out.cell (World.block_lt_of_cell? w _ Bt)).trans Bt),((HB.out.cell (World.block_lt_of_cell? w _ Br)).trans Br),((HB.out.cell (World.block_lt_of_cell? w _ Bq)).trans Bq),((HB.out.cell (World.block_lt_of_cell? w _ Bp)).trans Bp),((HB.out.cell (World.block_lt_of_cell? w _ Bo)).trans Bo),((HB.out.cell (World.block_lt_of_cell? w _ Bn)).trans Bn),((HB.out.cell (World.block_lt_of_cell? w _ Bl)).trans Bl),((HB.out.cell (World.block_lt_of_cell? w _ BG)).trans BG),((HB.out.cell (World.block_lt_of_cell? w _ BF)).trans BF),((HB.out.cell (World.block_lt_of_cell? w _ BD)).trans BD),((HB.out.cell (World.block_lt_of_cell? w _ Bz)).trans Bz),((HB.out.cell (World.block_lt_of_cell? w _ Bw)).trans Bw),((HB.out.cell (World.block_lt_of_cell? w _ Bv)).trans Bv),((HB.out.cell (World.block_lt_of_cell? w _ Bu)).trans Bu),((HB.out.cell (World.block_lt_of_cell? w _ Ck)).trans Ck),((HB.out.cell (World.block_lt_of_cell? w _ Cj)).trans Cj),((HB.out.cell (World.block_lt_of_cell? w _ Ci)).trans Ci),((HB.out.cell (World.block_lt_of_cell? w _ Ch)).trans Ch),((HB.out.cell (World.block_lt_of_cell? w _ Cg)).trans Cg),((HB.out.cell (World.block_lt_of_cell? w _ Ce)).trans Ce),((HB.out.cell (World.block_lt_of_cell? w _ Cc)).trans Cc),((HB.out.cell (World.block_lt_of_cell? w _ Cu)).trans Cu),((HB.out.cell (World.block_lt_of_cell? w _ Ct)).trans Ct),((HB.out.cell (World.block_lt_of_cell? w _ Cr)).trans Cr),((HB.out.cell (World.block_lt_of_cell? w _ Cq)).trans Cq),((HB.out.cell (World.block_lt_of_cell? w _ Co)).trans Co),((HB.out.cell (World.block_lt_of_cell? w _ Cn)).trans Cn),((HB.out.cell (World.block_lt_of_cell? w _ Cm)).trans Cm)⟩ (fun hHeld=>?_);refine dR aI.qO aI.mW (fun HT_ HW_=>?_)
           generalize wr.drew = FC at Au Aw HB CU CV CY C9 AB AJ AL AO AP AQ Ay AU AV AX AY AZ Bf Az BK BL BN BO BP BQ Bh BR BS BU BX BZ Ca Bj hHeld ⊢
           refine pu_ 0 27 #[I,O,O,O,O,O,O,O,O,O,O,O,O,O,O,O,O,O,O,O,O,O,O,O,O,O,O,O,O] HT_.out ?_
           refine pu_ 2 29 #[I,O,I,O,O,O,O,O,O,O,O,O,O,O,O,O,O,O,O,O,O,O,O,O,O,O,O,O,O] HT_.out ?_
           refine pu_ 6 33 #[I,O,I,O,O,O,I,O,O,O,O,O,O,O,O,O,O,O,O,O,O,O,O,O,O,O,O,O,O] HT_.out ?_
           refine pu_ 8 35 #[I,O,I,O,O,O,I,O,I,O,O,O,O,O,O,O,O,O,O,O,O,O,O,O,O,O,O,O,O] HT_.out ?_
           refine ta_ 1 28 #[I,I,I,O,O,O,I,O,I,O,O,O,O,O,O,O,O,O,O,O,O,O,O,O,O,O,O,O,O] HT_.out HW_.out hHeld ?_
           refine pu_ 3 30 #[I,I,I,I,O,O,I,O,I,O,O,O,O,O,O,O,O,O,O,O,O,O,O,O,O,O,O,O,O] HT_.out ?_
           refine pu_ 4 31 #[I,I,I,I,I,O,I,O,I,O,O,O,O,O,O,O,O,O,O,O,O,O,O,O,O,O,O,O,O] HT_.out ?_
           refine ta_ 5 32 #[I,I,I,I,I,I,I,O,I,O,O,O,O,O,O,O,O,O,O,O,O,O,O,O,O,O,O,O,O] HT_.out HW_.out hHeld ?_
           refine ta_ 7 34 #[I,I,I,I,I,I,I,I,I,O,O,O,O,O,O,O,O,O,O,O,O,O,O,O,O,O,O,O,O] HT_.out HW_.out hHeld ?_
           refine pu_ 9 36 #[I,I,I,I,I,I,I,I,I,I,O,O,O,O,O,O,O,O,O,O,O,O,O,O,O,O,O,O,O] HT_.out ?_
           refine pu_ 10 37 #[I,I,I,I,I,I,I,I,I,I,I,O,O,O,O,O,O,O,O,O,O,O,O,O,O,O,O,O,O] HT_.out ?_
           refine ta_ 11 38 #[I,I,I,I,I,I,I,I,I,I,I,I,O,O,O,O,O,O,O,O,O,O,O,O,O,O,O,O,O] HT_.out HW_.out hHeld ?_
           refine pu_ 12 39 #[I,I,I,I,I,I,I,I,I,I,I,I,I,O,O,O,O,O,O,O,O,O,O,O,O,O,O,O,O] HT_.out ?_
           refine pu_ 13 40 #[I,I,I,I,I,I,I,I,I,I,I,I,I,I,O,O,O,O,O,O,O,O,O,O,O,O,O,O,O] HT_.out ?_
           refine pu_ 14 41 #[I,I,I,I,I,I,I,I,I,I,I,I,I,I,I,O,O,O,O,O,O,O,O,O,O,O,O,O,O] HT_.out ?_
           refine pu_ 16 43 #[I,I,I,I,I,I,I,I,I,I,I,I,I,I,I,O,I,O,O,O,O,O,O,O,O,O,O,O,O] HT_.out ?_
           refine pu_ 20 47 #[I,I,I,I,I,I,I,I,I,I,I,I,I,I,I,O,I,O,O,O,I,O,O,O,O,O,O,O,O] HT_.out ?_
           refine pu_ 22 49 #[I,I,I,I,I,I,I,I,I,I,I,I,I,I,I,O,I,O,O,O,I,O,I,O,O,O,O,O,O] HT_.out ?_
           refine ta_ 15 42 #[I,I,I,I,I,I,I,I,I,I,I,I,I,I,I,I,I,O,O,O,I,O,I,O,O,O,O,O,O] HT_.out HW_.out hHeld ?_
           refine pu_ 17 44 #[I,I,I,I,I,I,I,I,I,I,I,I,I,I,I,I,I,I,O,O,I,O,I,O,O,O,O,O,O] HT_.out ?_
           refine pu_ 18 45 #[I,I,I,I,I,I,I,I,I,I,I,I,I,I,I,I,I,I,I,O,I,O,I,O,O,O,O,O,O] HT_.out ?_
           refine ta_ 19 46 #[I,I,I,I,I,I,I,I,I,I,I,I,I,I,I,I,I,I,I,I,I,O,I,O,O,O,O,O,O] HT_.out HW_.out hHeld ?_
           refine ta_ 21 48 #[I,I,I,I,I,I,I,I,I,I,I,I,I,I,I,I,I,I,I,I,I,I,I,O,O,O,O,O,O] HT_.out HW_.out hHeld ?_
           refine pu_ 23 50 #[I,I,I,I,I,I,I,I,I,I,I,I,I,I,I,I,I,I,I,I,I,I,I,I,O,O,O,O,O] HT_.out ?_
           refine pu_ 24 51 #[I,I,I,I,I,I,I,I,I,I,I,I,I,I,I,I,I,I,I,I,I,I,I,I,I,O,O,O,O] HT_.out ?_
           refine ta_ 25 52 #[I,I,I,I,I,I,I,I,I,I,I,I,I,I,I,I,I,I,I,I,I,I,I,I,I,I,O,O,O] HT_.out HW_.out hHeld ?_
           refine gG (i:=26) (N:=some 53) #[I,I,I,I,I,I,I,I,I,I,I,I,I,I,I,I,I,I,I,I,I,I,I,I,I,I,I,O,O] rfl rfl (dw HT_.out (by kernel_rfl)) (by decide) (fun K hK=>?_)
           refine eZ Tryd.func12 (by kernel_rfl) rfl #[.agg #[.string ((aK Ap Al).f1.f0),.string ((aK Ap Al).f1.f1),.int .i64 ((aK Ap Al).f1.f2),.int .i64 ((aK Ap Al).f1.f3),.bool ((aK Ap Al).f1.f4),.slice CK ((aK Ap Al).f1.f5).length CO],.agg #[.string ((aK Aq Al).f1.f0),.string ((aK Aq Al).f1.f1),.int .i64 ((aK Aq Al).f1.f2),.int .i64 ((aK Aq Al).f1.f3),.bool ((aK Aq Al).f1.f4),.slice CP ((aK Aq Al).f1.f5).length CQ]] (by rfl) rfl rfl (by (try simp only [List.map_toArray,List.map_cons,List.map_nil]);first|done|rfl|(simp only [List.length_drop,List.length_take];rfl)) ?_
           with_reducible refine (bB.calls k2 ((aK Ap Al).f1.f0) ((aK Ap Al).f1.f1) ((aK Ap Al).f1.f2) ((aK Ap Al).f1.f3) ((aK Ap Al).f1.f4) _ _ ((aK Ap Al).f1.f5) ((aK Aq Al).f1.f0) ((aK Aq Al).f1.f1) ((aK Aq Al).f1.f2) ((aK Aq Al).f1.f3) ((aK Aq Al).f1.f4) _ _ ((aK Aq Al).f1.f5) false _ ?Ea ?Eb ?Ec ?Ed E9.out).mono ?_
           (case Ea=>repeat (first|exact (Kd.bN CY.out HB.out)|(with_reducible refine Kd.bC ?_ _)|(with_reducible refine Kd.bO ?_ _)|(with_reducible refine Kd.bW ?_)))
           (case Eb=>exact Dn.out)
           (case Ec=>repeat (first|exact (Kd.bN C9.out HB.out)|(with_reducible refine Kd.bC ?_ _)|(with_reducible refine Kd.bO ?_ _)|(with_reducible refine Kd.bW ?_)))
           (case Ed=>exact Dp.out)
           rintro e FD ⟨rfl,hb⟩
           refine ⟨_,rfl,?_⟩
           have Di:=Aside0.mk (aM (g:=AA) (o:=.cells #[.int .u64 Bg,.slice (some Am) Ap.length CJ] 68 (0,0)) (bk_ Au.out) hb)
           have Dj:=Aside0.mk (aM (g:=Cb) (o:=.cells #[.int .u64 BJ,.slice (some Ao) Aq.length Da] 68 (0,0)) (bk_ Aw.out) hb)
           have Dk:=Aside0.mk (aJ hb_ hb)
           clear Au
           clear Aw
           clear HB
           have Au:=Di
           have Aw:=Dj
           have HB:=Dk
           clear Di Dj Dk
           (try clear hb)
           (try clear hb2)
           (try clear hk)
           (try clear hi)
           refine hK.out _ _ ⟨(ah Au.out 0).trans rfl,(ah Au.out 1).trans rfl,(ah Aw.out 0).trans rfl,(ah Aw.out 1).trans rfl,((HB.out.cell (World.block_lt_of_cell? w _ Bt)).trans Bt),((HB.out.cell (World.block_lt_of_cell? w _ Br)).trans Br),((HB.out.cell (World.block_lt_of_cell? w _ Bq)).trans Bq),((HB.out.cell (World.block_lt_of_cell? w _ Bp)).trans Bp),((HB.out.cell (World.block_lt_of_cell? w _ Bo)).trans Bo),((HB.out.cell (World.block_lt_of_cell? w _ Bn)).trans Bn),((HB.out.cell (World.block_lt_of_cell? w _ Bl)).trans Bl),((HB.out.cell (World.block_lt_of_cell? w _ BG)).trans BG),((HB.out.cell (World.block_lt_of_cell? w _ BF)).trans BF),((HB.out.cell (World.block_lt_of_cell? w _ BD)).trans BD),((HB.out.cell (World.block_lt_of_cell? w _ Bz)).trans Bz),((HB.out.cell (World.block_lt_of_cell? w _ Bw)).trans Bw),((HB.out.cell (World.block_lt_of_cell? w _ Bv)).trans Bv),((HB.out.cell (World.block_lt_of_cell? w _ Bu)).trans Bu),((HB.out.cell (World.block_lt_of_cell? w _ Ck)).trans Ck),((HB.out.cell (World.block_lt_of_cell? w _ Cj)).trans Cj),((HB.out.cell (World.block_lt_of_cell? w _ Ci)).trans Ci),((HB.out.cell (World.block_lt_of_cell? w _ Ch)).trans Ch),((HB.out.cell (World.block_lt_of_cell? w _ Cg)).trans Cg),((HB.out.cell (World.block_lt_of_cell? w _ Ce)).trans Ce),((HB.out.cell (World.block_lt_of_cell? w _ Cc)).trans Cc),((HB.out.cell (World.block_lt_of_cell? w _ Cu)).trans Cu),((HB.out.cell (World.block_lt_of_cell? w _ Ct)).trans Ct),((HB.out.cell (World.block_lt_of_cell? w _ Cr)).trans Cr),((HB.out.cell (World.block_lt_of_cell? w _ Cq)).trans Cq),((HB.out.cell (World.block_lt_of_cell? w _ Co)).trans Co),((HB.out.cell (World.block_lt_of_cell? w _ Cn)).trans Cn),((HB.out.cell (World.block_lt_of_cell? w _ Cm)).trans Cm)⟩ (fun hHeld=>?_)
           clear hK K
           refine dU (a':=?_) ?_ ?_
           rotate_left
           ·show Act.put _ (some 53) _ = _
            simp only [Act.put,List.setIfInBounds_toArray,List.set_cons_zero,List.set_cons_succ,bH,bI]
            rfl
           refine pu_ 27 54 #[I,I,I,I,I,I,I,I,I,I,I,I,I,I,I,I,I,I,I,I,I,I,I,I,I,I,I,I,O] HT_.out ?_
           refine pu_ 28 55 #[I,I,I,I,I,I,I,I,I,I,I,I,I,I,I,I,I,I,I,I,I,I,I,I,I,I,I,I,I] HT_.out ?_
           refine gJ (eH HT_.out (by kernel_rfl)) ?_
           try go_wp2
           go_ret
           exact ⟨by first|rfl|(simp [aV,aW] <;> rfl)|(simp [*,aV,aW] <;> rfl),hb_⟩
         ·rw [if_neg c17] at H
          have c17b0 : (((aK Ap Al).f0).toList == ((aK Aq Al).f0).toList) = false:=beq_eq_false_iff_ne.mpr c17
          have c17b1 : (((aK Ap Al).f0).toList != ((aK Aq Al).f0).toList) = true:=bne_iff_ne.mpr c17
          obtain rfl:=Option.some.inj H
          have Fh:=Cv.out
          have Fj:=Cw.out
          have ED : wr.cell? ⟨AA,0,none⟩ = some (.int .u64 Bg):=(ah Au.out 0).trans rfl
          have EF : wr.cell? ⟨AA,1,none⟩ = some (.slice CS Ap.length CJ):=(ah Au.out 1).trans rfl
          have EG:=au Au.out 0
          have EH:=au Au.out 1
          try go_wp2
          have Di:=Aside0.mk (aG Au.out)
          have Dj:=Aside0.mk (aG Aw.out)
          have Dk:=Aside0.mk (aZ HB.out)
          clear Au
          clear Aw
          clear HB
          have Au:=Di
          have Aw:=Dj
          have HB:=Dk
          clear Di Dj Dk
          have Db : 0 ≤ (Al : Int):=of_decide_eq_true (by first|(with_reducible assumption)|assumption)
          have Dc : Al < (Ap.length : Int):=of_decide_eq_true (by first|(with_reducible assumption)|assumption)
          obtain ⟨Am,CK,CO,D7,AB,AJ,AL,AO,AP,AQ,Ay,Cz,CB⟩:=iM Dq.out Al Db Dc
          have Bl:=Ay
          have Bn:=AQ
          have Bo:=AP
          have Bp:=AO
          have Bq:=AL
          have Br:=AJ
          have Bt:=AB
          cases D7
          replace AB:=(HB.out.cell (World.block_lt_of_cell? w _ AB)).trans AB
          replace AJ:=(HB.out.cell (World.block_lt_of_cell? w _ AJ)).trans AJ
          replace AL:=(HB.out.cell (World.block_lt_of_cell? w _ AL)).trans AL
          replace AO:=(HB.out.cell (World.block_lt_of_cell? w _ AO)).trans AO
          replace AP:=(HB.out.cell (World.block_lt_of_cell? w _ AP)).trans AP
          replace AQ:=(HB.out.cell (World.block_lt_of_cell? w _ AQ)).trans AQ
          replace Ay:=(HB.out.cell (World.block_lt_of_cell? w _ Ay)).trans Ay
          have CU:=Aside0.mk CB
          have DR:=Aside0.mk Cz
          clear CB Cz
          replace Db:=eq_true Db
          replace Dc:=eq_true Dc
          have Df : 0 ≤ (Al : Int):=of_decide_eq_true (by first|(with_reducible assumption)|assumption)
          have Dh : Al < (Aq.length : Int):=of_decide_eq_true (by first|(with_reducible assumption)|assumption)
          obtain ⟨Ao,CP,CQ,e278,AU,AV,AX,AY,AZ,Bf,Az,CF,CG⟩:=iM Dr.out Al Df Dh
          have Bu:=Az
          have Bv:=Bf
          have Bw:=AZ
          have Bz:=AY
          have BD:=AX
          have BF:=AV
          have BG:=AU
          cases e278
          replace AU:=(HB.out.cell (World.block_lt_of_cell? w _ AU)).trans AU
          replace AV:=(HB.out.cell (World.block_lt_of_cell? w _ AV)).trans AV
          replace AX:=(HB.out.cell (World.block_lt_of_cell? w _ AX)).trans AX
          replace AY:=(HB.out.cell (World.block_lt_of_cell? w _ AY)).trans AY
          replace AZ:=(HB.out.cell (World.block_lt_of_cell? w _ AZ)).trans AZ
          replace Bf:=(HB.out.cell (World.block_lt_of_cell? w _ Bf)).trans Bf
          replace Az:=(HB.out.cell (World.block_lt_of_cell? w _ Az)).trans Az
          have CV:=Aside0.mk CG
          have DT:=Aside0.mk CF
          clear CG CF
          replace Df:=eq_true Df
          replace Dh:=eq_true Dh
          refine fu (n:=29) (S:=fun w'=>w'.cell? ⟨AA,0,none⟩ = some (.int .u64 Bg) ∧ w'.cell? ⟨AA,1,none⟩ = some (.slice (some Am) Ap.length CJ) ∧ w'.cell? ⟨Cb,0,none⟩ = some (.int .u64 BJ) ∧ w'.cell? ⟨Cb,1,none⟩ = some (.slice (some Ao) Aq.length Da) ∧ w'.cell? (Am.add ((Al).toNat * 7)) = some (.string ((aK Ap Al).f0)) ∧ w'.cell? ⟨(Am.add ((Al).toNat * 7)).block,(Am.add ((Al).toNat * 7)).off + 1,none⟩ = some (.string ((aK Ap Al).f1.f0)) ∧ w'.cell? ⟨(Am.add ((Al).toNat * 7)).block,(Am.add ((Al).toNat * 7)).off + 2,none⟩ = some (.string ((aK Ap Al).f1.f1)) ∧ w'.cell? ⟨(Am.add ((Al).toNat * 7)).block,(Am.add ((Al).toNat * 7)).off + 3,none⟩ = some (.int .i64 ((aK Ap Al).f1.f2)) ∧ w'.cell? ⟨(Am.add ((Al).toNat * 7)).block,(Am.add ((Al).toNat * 7)).off + 4,none⟩ = some (.int .i64 ((aK Ap Al).f1.f3)) ∧ w'.cell? ⟨(Am.add ((Al).toNat * 7)).block,(Am.add ((Al).toNat * 7)).off + 5,none⟩ = some (.bool ((aK Ap Al).f1.f4)) ∧ w'.cell? ⟨(Am.add ((Al).toNat * 7)).block,(Am.add ((Al).toNat * 7)).off + 6,none⟩ = some (.slice CK ((aK Ap Al).f1.f5).length CO) ∧ w'.cell? (Ao.add ((Al).toNat * 7)) = some (.string ((aK Aq Al).f0)) ∧ w'.cell? ⟨(Ao.add ((Al).toNat * 7)).block,(Ao.add ((Al).toNat * 7)).off + 1,none⟩ = some (.string ((aK Aq Al).f1.f0)) ∧ w'.cell? ⟨(Ao.add ((Al).toNat * 7)).block,(Ao.add ((Al).toNat * 7)).off + 2,none⟩ = some (.string ((aK Aq Al).f1.f1)) ∧ w'.cell? ⟨(Ao.add ((Al).toNat * 7)).block,(Ao.add ((Al).toNat * 7)).off + 3,none⟩ = some (.int .i64 ((aK Aq Al).f1.f2)) ∧ w'.cell? ⟨(Ao.add ((Al).toNat * 7)).block,(Ao.add ((Al).toNat * 7)).off + 4,none⟩ = some (.int .i64 ((aK Aq Al).f1.f3)) ∧ w'.cell? ⟨(Ao.add ((Al).toNat * 7)).block,(Ao.add ((Al).toNat * 7)).off + 5,none⟩ = some (.bool ((aK Aq Al).f1.f4)) ∧ w'.cell? ⟨(Ao.add ((Al).toNat * 7)).block,(Ao.add ((Al).toNat * 7)).off + 6,none⟩ = some (.slice CP ((aK Aq Al).f1.f5).length CQ)) (ds:=[]) #[O,O,O,O,O,O,O,O,O,O,O,O,O,O,O,O,O,O,O,O,O,O,O,O,O,O,O,O,O] (by kernel_rfl) rfl rfl ⟨(ah Au.out 0).trans rfl,(ah Au.out 1).trans rfl,(ah Aw.out 0).trans rfl,(ah Aw.out 1).trans rfl,((HB.out.cell (World.block_lt_of_cell? w _ Bt)).trans Bt),((HB.out.cell (World.block_lt_of_cell? w _ Br)).trans Br),((HB.out.cell (World.block_lt_of_cell? w _ Bq)).trans Bq),((HB.out.cell (World.block_lt_of_cell? w _ Bp)).trans Bp),((HB.out.cell (World.block_lt_of_cell? w _ Bo)).trans Bo),((HB.out.cell (World.block_lt_of_cell? w _ Bn)).trans Bn),((HB.out.cell (World.block_lt_of_cell? w _ Bl)).trans Bl),((HB.out.cell (World.block_lt_of_cell? w _ BG)).trans BG),((HB.out.cell (World.block_lt_of_cell? w _ BF)).trans BF),((HB.out.cell (World.block_lt_of_cell? w _ BD)).trans BD),((HB.out.cell (World.block_lt_of_cell? w _ Bz)).trans Bz),((HB.out.cell (World.block_lt_of_cell? w _ Bw)).trans Bw),((HB.out.cell (World.block_lt_of_cell? w _ Bv)).trans Bv),((HB.out.cell (World.block_lt_of_cell? w _ Bu)).trans Bu)⟩ (fun hHeld=>?_);refine dR aI.qO aI.mW (fun HT_ HW_=>?_)
          generalize wr.drew = FE at Au Aw HB CU CV AB AJ AL AO AP AQ Ay AU AV AX AY AZ Bf Az hHeld ⊢
          refine pu_ 0 27 #[I,O,O,O,O,O,O,O,O,O,O,O,O,O,O,O,O,O,O,O,O,O,O,O,O,O,O,O,O] HT_.out ?_
          refine pu_ 2 29 #[I,O,I,O,O,O,O,O,O,O,O,O,O,O,O,O,O,O,O,O,O,O,O,O,O,O,O,O,O] HT_.out ?_
          refine pu_ 6 33 #[I,O,I,O,O,O,I,O,O,O,O,O,O,O,O,O,O,O,O,O,O,O,O,O,O,O,O,O,O] HT_.out ?_
          refine pu_ 8 35 #[I,O,I,O,O,O,I,O,I,O,O,O,O,O,O,O,O,O,O,O,O,O,O,O,O,O,O,O,O] HT_.out ?_
          refine ta_ 1 28 #[I,I,I,O,O,O,I,O,I,O,O,O,O,O,O,O,O,O,O,O,O,O,O,O,O,O,O,O,O] HT_.out HW_.out hHeld ?_
          refine pu_ 3 30 #[I,I,I,I,O,O,I,O,I,O,O,O,O,O,O,O,O,O,O,O,O,O,O,O,O,O,O,O,O] HT_.out ?_
          refine pu_ 4 31 #[I,I,I,I,I,O,I,O,I,O,O,O,O,O,O,O,O,O,O,O,O,O,O,O,O,O,O,O,O] HT_.out ?_
          refine ta_ 5 32 #[I,I,I,I,I,I,I,O,I,O,O,O,O,O,O,O,O,O,O,O,O,O,O,O,O,O,O,O,O] HT_.out HW_.out hHeld ?_
          refine ta_ 7 34 #[I,I,I,I,I,I,I,I,I,O,O,O,O,O,O,O,O,O,O,O,O,O,O,O,O,O,O,O,O] HT_.out HW_.out hHeld ?_
          refine pu_ 9 36 #[I,I,I,I,I,I,I,I,I,I,O,O,O,O,O,O,O,O,O,O,O,O,O,O,O,O,O,O,O] HT_.out ?_
          refine pu_ 10 37 #[I,I,I,I,I,I,I,I,I,I,I,O,O,O,O,O,O,O,O,O,O,O,O,O,O,O,O,O,O] HT_.out ?_
          refine ta_ 11 38 #[I,I,I,I,I,I,I,I,I,I,I,I,O,O,O,O,O,O,O,O,O,O,O,O,O,O,O,O,O] HT_.out HW_.out hHeld ?_
          refine pu_ 12 39 #[I,I,I,I,I,I,I,I,I,I,I,I,I,O,O,O,O,O,O,O,O,O,O,O,O,O,O,O,O] HT_.out ?_
          refine pu_ 13 40 #[I,I,I,I,I,I,I,I,I,I,I,I,I,I,O,O,O,O,O,O,O,O,O,O,O,O,O,O,O] HT_.out ?_
          refine pz_ 14 41 #[I,I,I,I,I,I,I,I,I,I,I,I,I,I,I,O,O,O,O,O,O,O,O,O,O,O,O,O,O] HT_.out ?_
          refine pz_ 15 42 #[I,I,I,I,I,I,I,I,I,I,I,I,I,I,I,I,O,O,O,O,O,O,O,O,O,O,O,O,O] HT_.out ?_
          refine pz_ 16 43 #[I,I,I,I,I,I,I,I,I,I,I,I,I,I,I,I,I,O,O,O,O,O,O,O,O,O,O,O,O] HT_.out ?_
          refine pz_ 17 44 #[I,I,I,I,I,I,I,I,I,I,I,I,I,I,I,I,I,I,O,O,O,O,O,O,O,O,O,O,O] HT_.out ?_
          refine pz_ 18 45 #[I,I,I,I,I,I,I,I,I,I,I,I,I,I,I,I,I,I,I,O,O,O,O,O,O,O,O,O,O] HT_.out ?_
          refine pz_ 19 46 #[I,I,I,I,I,I,I,I,I,I,I,I,I,I,I,I,I,I,I,I,O,O,O,O,O,O,O,O,O] HT_.out ?_
          refine pz_ 20 47 #[I,I,I,I,I,I,I,I,I,I,I,I,I,I,I,I,I,I,I,I,I,O,O,O,O,O,O,O,O] HT_.out ?_
          refine pz_ 21 48 #[I,I,I,I,I,I,I,I,I,I,I,I,I,I,I,I,I,I,I,I,I,I,O,O,O,O,O,O,O] HT_.out ?_
          refine pz_ 22 49 #[I,I,I,I,I,I,I,I,I,I,I,I,I,I,I,I,I,I,I,I,I,I,I,O,O,O,O,O,O] HT_.out ?_
          refine pz_ 23 50 #[I,I,I,I,I,I,I,I,I,I,I,I,I,I,I,I,I,I,I,I,I,I,I,I,O,O,O,O,O] HT_.out ?_
          refine pz_ 24 51 #[I,I,I,I,I,I,I,I,I,I,I,I,I,I,I,I,I,I,I,I,I,I,I,I,I,O,O,O,O] HT_.out ?_
          refine pz_ 25 52 #[I,I,I,I,I,I,I,I,I,I,I,I,I,I,I,I,I,I,I,I,I,I,I,I,I,I,O,O,O] HT_.out ?_
          refine pz_ 26 53 #[I,I,I,I,I,I,I,I,I,I,I,I,I,I,I,I,I,I,I,I,I,I,I,I,I,I,I,O,O] HT_.out ?_
          refine pz_ 27 54 #[I,I,I,I,I,I,I,I,I,I,I,I,I,I,I,I,I,I,I,I,I,I,I,I,I,I,I,I,O] HT_.out ?_
          refine pu_ 28 55 #[I,I,I,I,I,I,I,I,I,I,I,I,I,I,I,I,I,I,I,I,I,I,I,I,I,I,I,I,I] HT_.out ?_
          refine gJ (eH HT_.out (by kernel_rfl)) ?_
          try go_wp2
          go_ret
          exact ⟨by first|rfl|(simp [aV,aW] <;> rfl)|(simp [*,aV,aW] <;> rfl),hb_⟩
        ·rw [if_neg c16] at H
         exact absurd H (by simp)
       ·rw [if_neg c15] at H
        exact absurd H (by simp)
      ·rw [if_neg c14] at H
       have c14b0 : decide (Al < (Ap.length : Int)) = false:=decide_eq_false c14
       clear c14
       obtain rfl:=Option.some.inj H
       have Fp:=Cv.out
       have Fq:=Cw.out
       have EI : wr.cell? ⟨AA,0,none⟩ = some (.int .u64 Bg):=(ah Au.out 0).trans rfl
       have EJ : wr.cell? ⟨AA,1,none⟩ = some (.slice CS Ap.length CJ):=(ah Au.out 1).trans rfl
       have EK:=au Au.out 0
       have EL:=au Au.out 1
       go_wp2
       go_ret
       exact ⟨by first|rfl|(simp [aV,aW] <;> rfl)|(simp [*,aV,aW] <;> rfl),hb_⟩
end Go.Proofs.YtpflenjhmeaeoaaDoor.GUt
