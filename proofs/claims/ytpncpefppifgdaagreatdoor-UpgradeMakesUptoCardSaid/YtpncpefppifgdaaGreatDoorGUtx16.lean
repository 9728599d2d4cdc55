/- Written by this session's own program (wip/gen.py) out of the translation: plain Lean functions of the Go functions, and proofs that the calls come to their answers. No conditions beside those in the statements. -/
import Derived.Test.YtpncpefppifgdaaGreatDoorCp
import Derived.Test.YtpncpefppifgdaaGreatDoorGUtx0
import Derived.Test.YtpncpefppifgdaaGreatDoorGUtRSame
namespace Go.Proofs.YtpncpefppifgdaaGreatDoor.GUt
open Go.RowKit Go.Proofs.YtpncpefppifgdaaGreatDoorW.PrintWords Go.Proofs.YtpncpefppifgdaaGreatDoorW.PrintLast Go.Proofs.YtpncpefppifgdaaGreatDoorW.PrintMore
attribute [local go_sem] fZ gq gM gN fM fO gu gD
set_option linter.unusedVariables false
set_option linter.unusedSimpArgs false
mutual
def aC.j0 : Nat → Bool → Int → List (S96) → Int → List (S96) → Option (Bool)
 | 0,_,_,_,_,_=>none
 | k + 1,Ga,Ea,CB,Eb,CF=>if Ga = true then (some false) else (aC.l0 k 0 Ea CB Eb CF)
def aC.l0 : Nat → Int → Int → List (S96) → Int → List (S96) → Option (Bool)
 | 0,_,_,_,_,_=>none
 | k + 1,x5,Ea,CB,Eb,CF=>if x5 < (CB.length : Int) then (if 0 ≤ x5 then (if x5 < (CF.length : Int) then (if ((bA CB x5).f0).toList = ((bA CF x5).f0).toList then ((bV.f k ((bA CB x5).f1.f0) ((bA CB x5).f1.f1) ((bA CB x5).f1.f2) ((bA CB x5).f1.f3) ((bA CB x5).f1.f4) ((bA CB x5).f1.f5) ((bA CF x5).f1.f0) ((bA CF x5).f1.f1) ((bA CF x5).f1.f2) ((bA CF x5).f1.f3) ((bA CF x5).f1.f4) ((bA CF x5).f1.f5)).bind fun ES=>(if ES = true then (aC.l0 k (wrap64 (x5 + 1)) Ea CB Eb CF) else (some false))) else (some false)) else (none)) else (none)) else (some true)
end
def aC.f (k : Nat) (Cc : Int) (Bz : List (S96)) (CG : Int) (BD : List (S96)) : Option (Bool):=if Cc = CG then (aC.j0 k ((Bz.length : Int) != (BD.length : Int)) Cc Bz CG BD) else (aC.j0 k true Cc Bz CG BD)
theorem aC.eB : ∀ k,(∀ y0 y1 y2 y3 y4,LeO (aC.j0 k y0 y1 y2 y3 y4) (aC.j0 (k + 1) y0 y1 y2 y3 y4)) ∧ (∀ y0 y1 y2 y3 y4,LeO (aC.l0 k y0 y1 y2 y3 y4) (aC.l0 (k + 1) y0 y1 y2 y3 y4))
 | 0=>⟨fun _ _ _ _ _ r h=>by simp [aC.j0] at h,fun _ _ _ _ _ r h=>by simp [aC.l0] at h⟩
 | k + 1=>by
  obtain ⟨EY,ih1⟩:=aC.eB k
  refine ⟨?_,?_⟩
  ·intro y0 y1 y2 y3 y4
   unfold aC.j0
   repeat' first
   | (with_reducible exact EY _ _ _ _ _)
   | (with_reducible exact ih1 _ _ _ _ _)
   | (with_reducible exact bV.mono _ _ _ _ _ _ _ _ _ _ _ _ _)
   | (with_reducible exact LeO.refl _)
   | (with_reducible exact LeO.none _)
   | (with_reducible refine LeO.ite ?_ ?_)
   | (with_reducible refine LeO.bind ?_ (fun _=>?_))
   | exact EY _ _ _ _ _
   | exact ih1 _ _ _ _ _
   | exact bV.mono _ _ _ _ _ _ _ _ _ _ _ _ _
   | exact LeO.none _
   | refine LeO.ite ?_ ?_
   | refine LeO.bind ?_ (fun _=>?_)
  ·intro y0 y1 y2 y3 y4
   unfold aC.l0
   repeat' first
   | (with_reducible exact EY _ _ _ _ _)
   | (with_reducible exact ih1 _ _ _ _ _)
   | (with_reducible exact bV.mono _ _ _ _ _ _ _ _ _ _ _ _ _)
   | (with_reducible exact LeO.refl _)
   | (with_reducible exact LeO.none _)
   | (with_reducible refine LeO.ite ?_ ?_)
   | (with_reducible refine LeO.bind ?_ (fun _=>?_))
   | exact EY _ _ _ _ _
   | exact ih1 _ _ _ _ _
   | exact bV.mono _ _ _ _ _ _ _ _ _ _ _ _ _
   | exact LeO.none _
   | refine LeO.ite ?_ ?_
   | refine LeO.bind ?_ (fun _=>?_)
theorem aC.mono : ∀ a0 a1 a2 a3 k,LeO (aC.f k a0 a1 a2 a3) (aC.f (k + 1) a0 a1 a2 a3):=by
 intro a0 a1 a2 a3 k
 obtain ⟨EY,ih1⟩:=aC.eB k
 unfold aC.f
 repeat' first
   | (with_reducible exact EY _ _ _ _ _)
   | (with_reducible exact ih1 _ _ _ _ _)
   | (with_reducible exact bV.mono _ _ _ _ _ _ _ _ _ _ _ _ _)
   | (with_reducible exact LeO.refl _)
   | (with_reducible exact LeO.none _)
   | (with_reducible refine LeO.ite ?_ ?_)
   | (with_reducible refine LeO.bind ?_ (fun _=>?_))
   | exact EY _ _ _ _ _
   | exact ih1 _ _ _ _ _
   | exact bV.mono _ _ _ _ _ _ _ _ _ _ _ _ _
   | exact LeO.none _
   | refine LeO.ite ?_ ?_
   | refine LeO.bind ?_ (fun _=>?_)
def aC.T6 : Bool × List (List Nat × List Nat):=(true,[([],[]),([0],[0]),([],[]),([1,2],[1,2]),([3],[3]),([4],[4]),([],[]),([6],[6]),([],[]),([7,8],[7,8]),([9],[9]),([10],[10]),([5,11],[5,11]),([12],[12]),([13],[13]),([14,13],[13,14]),([13],[13]),([15,16,13],[13,15,16]),([17,13],[13,17]),([18,13],[13,18]),([13],[13]),([20,13],[13,20]),([13],[13]),([21,22,13],[13,21,22]),([23,13],[13,23]),([24,13],[13,24]),([19,25,13,13],[13,19,25]),([26,13],[13,26]),([13,27],[13,27])])
def aC.B6 : List Nat:=[0,1,0,7,15,31,0,64,0,448,960,1984,4095,8191,16383,32767,16383,131071,262143,524287,16383,1064959,16383,7356415,15745023,32522239,67108863,134217727,268435455]
theorem aC.sD : gX .any (opsOf Tryz.f14 6) = aC.T6:=by kernel_rfl
theorem aC.oD : fU aC.T6.2 aC.B6 = true:=by kernel_rfl
set_option maxHeartbeats 8000000 in
set_option maxRecDepth 100000 in
theorem aC.calls (k : Nat) (Cc : Int) (DJ : Option Addr) (Dy : Nat) (Bz : List (S96)) (CG : Int) (Eh : Option Addr) (DX : Nat) (BD : List (S96)) (r : Bool) (w : World) (ET : Kd.C k96 w DJ Bz.length Bz) (EU : Bz.length ≤ Dy) (EW : Kd.C k96 w Eh BD.length BD) (EX : BD.length ≤ DX) (h : aC.f k Cc Bz CG BD = some r) :
  Calls Tryz.prog 14 #[.agg #[.int .u64 Cc,.slice DJ Bz.length Dy],.agg #[.int .u64 CG,.slice Eh BD.length DX]] w fun e w'=>e = .returned (.bool r) ∧ Below w.heap.size w w':=by
 have Gb:=Tryz.underlying47
 have Gc:=Tryz.underlying94
 have Ee:=Aside0.mk ET
 have FJ:=Aside0.mk EU
 clear ET EU
 have Ef:=Aside0.mk EW
 have FL:=Aside0.mk EX
 clear EW EX
 have HB:=Aside0.mk (Below.refl w.heap.size w)
 have H : (if Cc = CG then (aC.j0 k ((Bz.length : Int) != (BD.length : Int)) Cc Bz CG BD) else (aC.j0 k true Cc Bz CG BD)) = some r:=h
 clear h
 have FH:=Aside0.mk H
 clear H
 go_enter Tryz.func14,Tryz.ntmps14
 go_upto_region 1 with (first|((with_reducible refine dz (N:=2) rfl ?_);(try (refine iJ (by rfl) ?_;dsimp only));refine dJ ?hg (N:=2) ?hd (cs:=#[.int .u64 Cc,.slice DJ Bz.length Dy]) (t:=47) ?hr ?_;(case hd=>rfl);(case hg=>rfl);(case hr=>first|(go_simp;done)|(go_simp;rfl));intro BJ hg w4 hbox hb;have D7:=Aside0.mk (aN hb_ hb);have D8:=Aside0.mk (hbox);have D9:=Aside0.mk ((by rw [hg];exact (aU hb_) : w.heap.size ≤ BJ));have Fa:=Aside0.mk ((by rw [hg];exact (aU hb_) : w.heap.size ≤ BJ));clear HB;have HB:=D7;have BF:=D8;have FM:=D9;have FN:=Fa;clear D7 D8 D9 Fa;clear hb hbox hg)|((with_reducible refine dz (N:=3) rfl ?_);(try (refine iJ (by rfl) ?_;dsimp only));refine dJ ?hg (N:=3) ?hd (cs:=#[.int .u64 CG,.slice Eh BD.length DX]) (t:=47) ?hr ?_;(case hd=>rfl);(case hg=>rfl);(case hr=>first|(go_simp;done)|(go_simp;rfl));intro C8 hg w5 hbox hb;have D7:=Aside0.mk (aI (g:=BJ) (o:=.cells #[.int .u64 Cc,.slice DJ Bz.length Dy] 47 (0,0)) (bk_ BF.out) hb);have D8:=Aside0.mk (aN hb_ hb);have D9:=Aside0.mk (hbox);have Fa:=Aside0.mk ((by rw [hg];exact (aU hb_) : w.heap.size ≤ C8));have FP:=Aside0.mk ((by rw [hg];exact (aU hb_) : w.heap.size ≤ C8));have FQ:=Aside0.mk ((by rw [hg];exact Nat.ne_of_lt (bE (g:=BJ) (o:=.cells #[.int .u64 Cc,.slice DJ Bz.length Dy] 47 (0,0)) (bk_ BF.out)) : BJ ≠ C8));have FR:=Aside0.mk ((by rw [hg];exact Nat.ne_of_gt (bE (g:=BJ) (o:=.cells #[.int .u64 Cc,.slice DJ Bz.length Dy] 47 (0,0)) (bk_ BF.out)) : C8 ≠ BJ));clear BF;clear HB;have BF:=D7;have HB:=D8;have BG:=D9;have FT:=Fa;have FU:=FP;have Dr:=FQ;have Dt:=FR;clear D7 D8 D9 Fa FP FQ FR;clear hb hbox hg))
 (try simp only [Act.put,List.setIfInBounds_toArray,List.set_cons_zero,List.set_cons_succ])
 go_cut [19] (fun v19 wc=>∃ (kq : Nat) (En : Bool),v19 = .bool En ∧ Aside0 (aC.j0 kq En Cc Bz CG BD = some r) ∧ Aside0 (kq ≤ k) ∧ Aside0 (wc.heap[BJ]? = some (.cells #[.int .u64 Cc,(.slice DJ Bz.length Dy)] 47 (0,0))) ∧ Aside0 (wc.heap[C8]? = some (.cells #[.int .u64 CG,(.slice Eh BD.length DX)] 47 (0,0))) ∧ Aside0 (Below w.heap.size w wc))
 case first =>
  have H:=FH.out
  clear FH
  by_cases c6 : Cc = CG
  ·rw [if_pos c6] at H
   have c6b0 : (Cc == CG) = true:=beq_iff_eq.mpr c6
   have c6b1 : (Cc != CG) = false:=bne_eq_false_iff_eq.mpr c6
   clear c6
   (first|rw [c6b0]|(simp only [bJ,bK];rw [c6b0])|skip)
   have H':=Aside0.mk H
   clear H
   have Gd:=Dr.out
   have Gf:=Dt.out
   have EB : w5.cell? ⟨BJ,0,none⟩ = some (.int .u64 Cc):=(ah BF.out 0).trans rfl
   have EC : w5.cell? ⟨BJ,1,none⟩ = some (.slice DJ Bz.length Dy):=(ah BF.out 1).trans rfl
   have ED:=ay BF.out 0
   have EF:=ay BF.out 1
   have EG : w5.cell? ⟨C8,0,none⟩ = some (.int .u64 CG):=(ah BG.out 0).trans rfl
   have EH : w5.cell? ⟨C8,1,none⟩ = some (.slice Eh BD.length DX):=(ah BG.out 1).trans rfl
   have EI:=ay BG.out 0
   have EJ:=ay BG.out 1
   go_wp2
   go_meet
   case rel=>exact ⟨_,(((Bz.length : Int) != (BD.length : Int))),(by first|rfl|(simp;done)|(simp [*];done)),H',⟨by first|omega|exact Nat.le_refl _⟩,⟨by (with_reducible repeat (first|apply aj|apply av|apply ak));exact BF.out⟩,⟨by (with_reducible repeat (first|apply aj|apply av|apply ak));exact BG.out⟩,⟨hb_⟩⟩
  ·rw [if_neg c6] at H
   have c6b0 : (Cc == CG) = false:=beq_eq_false_iff_ne.mpr c6
   have c6b1 : (Cc != CG) = true:=bne_iff_ne.mpr c6
   (first|rw [c6b0]|(simp only [bJ,bK];rw [c6b0])|skip)
   have H':=Aside0.mk H
   clear H
   have FV:=Dr.out
   have FW:=Dt.out
   have Eo : w5.cell? ⟨BJ,0,none⟩ = some (.int .u64 Cc):=(ah BF.out 0).trans rfl
   have Ep : w5.cell? ⟨BJ,1,none⟩ = some (.slice DJ Bz.length Dy):=(ah BF.out 1).trans rfl
   have Er:=ay BF.out 0
   have Es:=ay BF.out 1
   have Et : w5.cell? ⟨C8,0,none⟩ = some (.int .u64 CG):=(ah BG.out 0).trans rfl
   have Eu : w5.cell? ⟨C8,1,none⟩ = some (.slice Eh BD.length DX):=(ah BG.out 1).trans rfl
   have Ew:=ay BG.out 0
   have Ey:=ay BG.out 1
   go_wp2
   go_meet
   case rel=>exact ⟨_,(true),(by first|rfl|(simp;done)|(simp [*];done)),H',⟨by first|omega|exact Nat.le_refl _⟩,⟨by (with_reducible repeat (first|apply aj|apply av|apply ak));exact BF.out⟩,⟨by (with_reducible repeat (first|apply aj|apply av|apply ak));exact BG.out⟩,⟨hb_⟩⟩
 case rest =>
  clear FH
  try clear c1
  try clear p2
  try clear c6
  try clear c6b0
  try clear c6b1
  try clear c7
  try clear c10
  try clear Eo
  try clear Ep
  try clear Et
  try clear Eu
  try clear EB
  try clear EC
  try clear EG
  try clear EH
  try clear Er
  try clear Es
  try clear Ew
  try clear Ey
  try clear ED
  try clear EF
  try clear EI
  try clear EJ
  obtain ⟨kq,En,rfl,HA,HJ2,BF,BG,HB⟩:=hcut
  cases kq with
  | zero=>exact absurd HA.out (by simp [aC.j0])
  | succ FI =>
   have H:=HA.out
   clear HA
   simp only [aC.j0] at H
   by_cases c13 : En = true
   ·subst c13
    have H1 : (some false) = some r:=by rw [if_pos rfl] at H;exact H
    clear H
    have H:=H1
    clear H1
    obtain rfl:=Option.some.inj H
    go_wp2
    go_ret
    exact ⟨by first|rfl|(simp [bB,bC] <;> rfl)|(simp [*,bB,bC] <;> rfl),hb_⟩
   ·replace c13:=Bool.eq_false_iff.mpr c13
    subst c13
    have H1 : (aC.l0 FI 0 Cc Bz CG BD) = some r:=by rw [if_neg (show ¬ (false = true) by decide)] at H;exact H
    clear H
    have H:=H1
    clear H1
    have H':=Aside0.mk H
    clear H
    go_wp2
    go_loopg [5] FI (fun kq v5 w'=>∃ (Bu : Int),v5 = .int .i64 Bu ∧ Aside0 (aC.l0 kq Bu Cc Bz CG BD = some r) ∧ Aside0 (kq ≤ FI) ∧ Aside0 (w'.heap[BJ]? = some (.cells #[.int .u64 Cc,(.slice DJ Bz.length Dy)] 47 (0,0))) ∧ Aside0 (w'.heap[C8]? = some (.cells #[.int .u64 CG,(.slice Eh BD.length DX)] 47 (0,0))) ∧ Aside0 (Below w.heap.size w w'))
    case atStart=>exact ⟨(0),(by first|rfl|(simp;done)|(simp [*];done)),H',⟨Nat.le_refl _⟩,⟨by (with_reducible repeat (first|apply aj|apply av|apply ak));exact BF.out⟩,⟨by (with_reducible repeat (first|apply aj|apply av|apply ak));exact BG.out⟩,⟨hb_⟩⟩
    case round =>
     clear H'
     try clear c1
     try clear p2
     try clear c6
     try clear c6b0
     try clear c6b1
     try clear c7
     try clear c10
     try clear c13
     try clear Eo
     try clear Ep
     try clear Et
     try clear Eu
     try clear EB
     try clear EC
     try clear EG
     try clear EH
     try clear Er
     try clear Es
     try clear Ew
     try clear Ey
     try clear ED
     try clear EF
     try clear EI
     try clear EJ
     try clear p2
     obtain ⟨Bu,rfl,HA,FX,BF,BG,HB⟩:=hrel
     cases gk with
     | zero=>exact absurd HA.out (by simp [aC.l0])
     | succ k2 =>
      have H:=HA.out
      clear HA
      simp only [aC.l0] at H
      by_cases c14 : Bu < (Bz.length : Int)
      ·rw [if_pos c14] at H
       have c14b0 : decide (Bu < (Bz.length : Int)) = true:=decide_eq_true c14
       clear c14
       by_cases c15 : 0 ≤ Bu
       ·rw [if_pos c15] at H
        have c15b0 : decide (0 ≤ Bu) = true:=decide_eq_true c15
        clear c15
        by_cases c16 : Bu < (BD.length : Int)
        ·rw [if_pos c16] at H
         have c16b0 : decide (Bu < (BD.length : Int)) = true:=decide_eq_true c16
         clear c16
         by_cases c17 : ((bA Bz Bu).f0).toList = ((bA BD Bu).f0).toList
         ·rw [if_pos c17] at H
          have c17b0 : (((bA Bz Bu).f0).toList == ((bA BD Bu).f0).toList) = true:=beq_iff_eq.mpr c17
          have c17b1 : (((bA Bz Bu).f0).toList != ((bA BD Bu).f0).toList) = false:=bne_eq_false_iff_eq.mpr c17
          clear c17
          replace H:=Option.bind_eq_some_iff.mp H
          obtain ⟨ES,Fb,H⟩:=H
          replace H : (if ES = true then (aC.l0 k2 (wrap64 (Bu + 1)) Cc Bz CG BD) else (some false)) = some r:=H
          have FY:=Aside0.mk Fb
          clear Fb
          by_cases c19 : ES = true
          ·subst c19
           have H1 : (aC.l0 k2 (wrap64 (Bu + 1)) Cc Bz CG BD) = some r:=by rw [if_pos rfl] at H;exact H
           clear H
           have H:=H1
           clear H1
           have H':=Aside0.mk H
           clear H
           have FZ:=Dr.out
           have F3:=Dt.out
           have Fe : wr.cell? ⟨BJ,0,none⟩ = some (.int .u64 Cc):=(ah BF.out 0).trans rfl
           have Fg : wr.cell? ⟨BJ,1,none⟩ = some (.slice DJ Bz.length Dy):=(ah BF.out 1).trans rfl
           have Fh:=ay BF.out 0
           have Fj:=ay BF.out 1
           try go_wp2
           have D7:=Aside0.mk (av BF.out)
           have D8:=Aside0.mk (av BG.out)
           have D9:=Aside0.mk (bF HB.out)
           clear BF
           clear BG
           clear HB
           have BF:=D7
           have BG:=D8
           have HB:=D9
           clear D7 D8 D9
           have DY : 0 ≤ (Bu : Int):=of_decide_eq_true (by first|(with_reducible assumption)|assumption)
           have DZ : Bu < (Bz.length : Int):=of_decide_eq_true (by first|(with_reducible assumption)|assumption)
           obtain ⟨Bv,Dz,DC,EK,BK,BL,BN,BO,BP,BQ,BH,Du,Dv⟩:=jZ Ee.out Bu DY DZ
           have Ch:=BH
           have Ci:=BQ
           have Cj:=BP
           have Ck:=BO
           have Cm:=BN
           have Cn:=BL
           have Co:=BK
           cases EK
           replace BK:=(HB.out.cell (World.block_lt_of_cell? w _ BK)).trans BK
           replace BL:=(HB.out.cell (World.block_lt_of_cell? w _ BL)).trans BL
           replace BN:=(HB.out.cell (World.block_lt_of_cell? w _ BN)).trans BN
           replace BO:=(HB.out.cell (World.block_lt_of_cell? w _ BO)).trans BO
           replace BP:=(HB.out.cell (World.block_lt_of_cell? w _ BP)).trans BP
           replace BQ:=(HB.out.cell (World.block_lt_of_cell? w _ BQ)).trans BQ
           replace BH:=(HB.out.cell (World.block_lt_of_cell? w _ BH)).trans BH
           have DK:=Aside0.mk Dv
           have Ez:=Aside0.mk Du
           clear Dv Du
           replace DY:=eq_true DY
           replace DZ:=eq_true DZ
           have D5 : 0 ≤ (Bu : Int):=of_decide_eq_true (by first|(with_reducible assumption)|assumption)
           have D6 : Bu < (BD.length : Int):=of_decide_eq_true (by first|(with_reducible assumption)|assumption)
           obtain ⟨Bw,DF,DI,e240,BR,BS,BU,BZ,Ca,Cb,BI,Dw,Dx⟩:=jZ Ef.out Bu D5 D6
           have Cq:=BI
           have Cr:=Cb
           have Ct:=Ca
           have Cu:=BZ
           have Cv:=BU
           have Cw:=BS
           have Cz:=BR
           cases e240
           replace BR:=(HB.out.cell (World.block_lt_of_cell? w _ BR)).trans BR
           replace BS:=(HB.out.cell (World.block_lt_of_cell? w _ BS)).trans BS
           replace BU:=(HB.out.cell (World.block_lt_of_cell? w _ BU)).trans BU
           replace BZ:=(HB.out.cell (World.block_lt_of_cell? w _ BZ)).trans BZ
           replace Ca:=(HB.out.cell (World.block_lt_of_cell? w _ Ca)).trans Ca
           replace Cb:=(HB.out.cell (World.block_lt_of_cell? w _ Cb)).trans Cb
           replace BI:=(HB.out.cell (World.block_lt_of_cell? w _ BI)).trans BI
           have DL:=Aside0.mk Dx
           have EA:=Aside0.mk Dw
           clear Dx Dw
           replace D5:=eq_true D5
           replace D6:=eq_true D6
           have Ei : 0 ≤ (Bu : Int):=of_decide_eq_true (by first|(with_reducible assumption)|assumption)
           have Ej : Bu < (Bz.length : Int):=of_decide_eq_true (by first|(with_reducible assumption)|assumption)
           obtain ⟨EL,EZ,E5,e241,CJ,CK,CO,CP,CQ,CS,Ce,DN,DR⟩:=jZ Ee.out Bu Ei Ej
           have C9:=Ce
           have Da:=CS
           have Db:=CQ
           have Dc:=CP
           have Df:=CO
           have Dh:=CK
           have Di:=CJ
           obtain rfl : Bv = EL:=(by injection e241)
           replace CJ:=(HB.out.cell (World.block_lt_of_cell? w _ CJ)).trans CJ
           replace CK:=(HB.out.cell (World.block_lt_of_cell? w _ CK)).trans CK
           replace CO:=(HB.out.cell (World.block_lt_of_cell? w _ CO)).trans CO
           replace CP:=(HB.out.cell (World.block_lt_of_cell? w _ CP)).trans CP
           replace CQ:=(HB.out.cell (World.block_lt_of_cell? w _ CQ)).trans CQ
           replace CS:=(HB.out.cell (World.block_lt_of_cell? w _ CS)).trans CS
           replace Ce:=(HB.out.cell (World.block_lt_of_cell? w _ Ce)).trans Ce
           have DT:=Aside0.mk DR
           have Ec:=Aside0.mk DN
           clear DR DN
           replace Ei:=eq_true Ei
           replace Ej:=eq_true Ej
           have ea_:=Option.some.inj (BH.symm.trans Ce)
           injection ea_ with ea_ en_ ec_
           subst ea_
           subst ec_
           clear en_
           have El : 0 ≤ (Bu : Int):=of_decide_eq_true (by first|(with_reducible assumption)|assumption)
           have Em : Bu < (BD.length : Int):=of_decide_eq_true (by first|(with_reducible assumption)|assumption)
           obtain ⟨EM,E8,E9,e242,CU,CV,CW,CX,CY,CZ,Cg,DU,DV⟩:=jZ Ef.out Bu El Em
           have Dj:=Cg
           have Dk:=CZ
           have Dl:=CY
           have Dm:=CX
           have Dn:=CW
           have Dp:=CV
           have Dq:=CU
           obtain rfl : Bw = EM:=(by injection e242)
           replace CU:=(HB.out.cell (World.block_lt_of_cell? w _ CU)).trans CU
           replace CV:=(HB.out.cell (World.block_lt_of_cell? w _ CV)).trans CV
           replace CW:=(HB.out.cell (World.block_lt_of_cell? w _ CW)).trans CW
           replace CX:=(HB.out.cell (World.block_lt_of_cell? w _ CX)).trans CX
           replace CY:=(HB.out.cell (World.block_lt_of_cell? w _ CY)).trans CY
           replace CZ:=(HB.out.cell (World.block_lt_of_cell? w _ CZ)).trans CZ
           replace Cg:=(HB.out.cell (World.block_lt_of_cell? w _ Cg)).trans Cg
           have DW:=Aside0.mk DV
           have Ed:=Aside0.mk DU
           clear DV DU
           replace El:=eq_true El
           replace Em:=eq_true Em
           have ea_:=Option.some.inj (BI.symm.trans Cg)
           injection ea_ with ea_ en_ ec_
           subst ea_
           subst ec_
           clear en_
           refine iE (n:=29) (S:=fun w'=>w'.cell? ⟨BJ,0,none⟩ = some (.int .u64 Cc) ∧ w'.cell? ⟨BJ,1,none⟩ = some (.slice (some Bv) Bz.length Dy) ∧ w'.cell? ⟨C8,0,none⟩ = some (.int .u64 CG) ∧ w'.cell? ⟨C8,1,none⟩ = some (.slice (some Bw) BD.length DX) ∧ w'.cell? (Bv.add ((Bu).toNat * 7)) = some (.string ((bA Bz Bu).f0)) ∧ w'.cell? ⟨(Bv.add ((Bu).toNat * 7)).block,(Bv.add ((Bu).toNat * 7)).off + 1,none⟩ = some (.string ((bA Bz Bu).f1.f0)) ∧ w'.cell? ⟨(Bv.add ((Bu).toNat * 7)).block,(Bv.add ((Bu).toNat * 7)).off + 2,none⟩ = some (.string ((bA Bz Bu).f1.f1)) ∧ w'.cell? ⟨(Bv.add ((Bu).toNat * 7)).block,(Bv.add ((Bu).toNat * 7)).off + 3,none⟩ = some (.int .i64 ((bA Bz Bu).f1.f2)) ∧ w'.cell? ⟨(Bv.add ((Bu).toNat * 7)).block,(Bv.add ((Bu).toNat * 7)).off + 4,none⟩ = some (.int .i64 ((bA Bz Bu).f1.f3)) ∧ w'.cell? ⟨(Bv.add ((Bu).toNat * 7)).block,(Bv.add ((Bu).toNat * 7)).off + 5,none⟩ = some (.bool ((bA Bz Bu).f1.f4)) ∧ w'.cell? ⟨(Bv.add ((Bu).toNat * 7)).block,(Bv.add ((Bu).toNat * 7)).off + 6,none⟩ = some (.slice Dz ((bA Bz Bu).f1.f5).length DC) ∧ w'.cell? (Bw.add ((Bu).toNat * 7)) = some (.string ((bA BD Bu).f0)) ∧ w'.cell? ⟨(Bw.add ((Bu).toNat * 7)).block,(Bw.add ((Bu).toNat * 7)).off + 1,none⟩ = some (.string ((bA BD Bu).f1.f0)) ∧ w'.cell? ⟨(Bw.add ((Bu).toNat * 7)).block,(Bw.add ((Bu).toNat * 7)).off + 2,none⟩ = some (.string ((bA BD Bu).f1.f1)) ∧ w'.cell? ⟨(Bw.add ((Bu).toNat * 7)).block,(Bw.add ((Bu).toNat * 7)).off + 3,none⟩ = some (.int .i64 ((bA BD Bu).f1.f2)) ∧ w'.cell? ⟨(Bw.add ((Bu).toNat * 7)).block,(Bw.add ((Bu).toNat * 7)).off + 4,none⟩ = some (.int .i64 ((bA BD Bu).f1.f3)) ∧ w'.cell? ⟨(Bw.add ((Bu).toNat * 7)).block,(Bw.add ((Bu).toNat * 7)).off + 5,none⟩ = some (.bool ((bA BD Bu).f1.f4)) ∧ w'.cell? ⟨(Bw.add ((Bu).toNat * 7)).block,(Bw.add ((Bu).toNat * 7)).off + 6,none⟩ = some (.slice DF ((bA BD Bu).f1.f5).length DI) ∧ w'.cell? (Bv.add ((Bu).toNat * 7)) = some (.string ((bA Bz Bu).f0)) ∧ w'.cell? ⟨(Bv.add ((Bu).toNat * 7)).block,(Bv.add ((Bu).toNat * 7)).off + 1,none⟩ = some (.string ((bA Bz Bu).f1.f0)) ∧ w'.cell? ⟨(Bv.add ((Bu).toNat * 7)).block,(Bv.add ((Bu).toNat * 7)).off + 2,none⟩ = some (.string ((bA Bz Bu).f1.f1)) ∧ w'.cell? ⟨(Bv.add ((Bu).toNat * 7)).block,(Bv.add ((Bu).toNat * 7)).off + 3,none⟩ = some (.int .i64 ((bA Bz Bu).f1.f2)) ∧ w'.cell? ⟨(Bv.add ((Bu).toNat * 7)).block,(Bv.add ((Bu).toNat * 7)).off + 4,none⟩ = some (.int .i64 ((bA Bz Bu).f1.f3)) ∧ w'.cell? ⟨(Bv.add ((Bu).toNat * 7)).block,(Bv.add ((Bu).toNat * 7)).off + 5,none⟩ = some (.bool ((bA Bz Bu).f1.f4)) ∧ w'.cell? ⟨(Bv.add ((Bu).toNat * 7)).block,(Bv.add ((Bu).toNat * 7)).off + 6,none⟩ = some (.slice Dz ((bA Bz Bu).f1.f5).length DC) ∧ w'.cell? (Bw.add ((Bu).toNat * 7)) = some (.string ((bA BD Bu).f0)) ∧ w'.cell? ⟨(Bw.add ((Bu).toNat * 7)).block,(Bw.add ((Bu).toNat * 7)).off + 1,none⟩ = some (.string ((bA BD Bu).f1.f0)) ∧ w'.cell? ⟨(Bw.add ((Bu).toNat * 7)).block,(Bw.add ((Bu).toNat * 7)).off + 2,none⟩ = some (.string ((bA BD Bu).f1.f1)) ∧ w'.cell? ⟨(Bw.add ((Bu).toNat * 7)).block,(Bw.add ((Bu).toNat * 7)).off + 3,none⟩ = some (.int .i64 ((bA BD Bu).f1.f2)) ∧ w'.cell? ⟨(Bw.add ((Bu).toNat * 7)).block,(Bw.add ((Bu).toNat * 7)).off + 4,none⟩ = some (.int .i64 ((bA BD Bu).f1.f3)) ∧ w'.cell? ⟨(Bw.add ((Bu).toNat * 7)).block,(Bw.add ((Bu).toNat * 7)).off + 5,none⟩ = some (.bool ((bA BD Bu).f1.f4)) ∧ w'.cell? ⟨(Bw.add ((Bu).toNat * 7)).block,(Bw.add ((Bu).toNat * 7)).off + 6,none⟩ = some (.slice DF ((bA BD Bu).f1.f5).length DI)) (ds:=[]) #[O,O,O,O,O,O,O,O,O,O,O,O,O,O,O,O,O,O,O,O,O,O,O,O,O,O,O,O,O] (by kernel_rfl) rfl rfl ⟨(ah BF.out 0).trans rfl,(ah BF.out 1).trans rfl,(ah BG.out 0).trans rfl,(ah BG.out 1).trans rfl,((HB.out.cell (World.block_lt_of_cell? w _ Co)).trans Co),((HB.out.cell (World.block_lt_of_cell? w _ Cn)).trans Cn),((HB.out.cell (World.block_lt_of_cell? w _ Cm)).trans Cm),((HB.out.cell (World.block_lt_of_cell? w _ Ck)).trans Ck),((HB.out.cell (World.block_lt_of_cell? w _ Cj)).trans Cj),((HB.out.cell (World.block_lt_of_cell? w _ Ci)).trans Ci),((HB.out.cell (World.block_lt_of_cell? w _ Ch)).trans Ch),((HB.out.cell (World.block_lt_of_cell? w _ Cz)).trans Cz),((HB.out.cell (World.block_lt_of_cell? w _ Cw)).trans Cw),((HB.out.cell (World.block_lt_of_cell? w _ Cv)).trans Cv),((HB.out.cell (World.block_lt_of_cell? w _ Cu)).trans Cu),((HB.out.cell (World.block_lt_of_cell? w _ Ct)).trans Ct),((HB.out.cell (World.block_lt_of_cell? w _ Cr)).trans Cr),((HB.out.cell (World.block_lt_of_cell? w _ Cq)).trans Cq),((HB.out.cell (World.block_lt_of_cell? w _ Di)).trans Di),((HB.out.cell (World.block_lt_of_cell? w _ Dh)).trans Dh),((HB.out.cell (World.block_lt_of_cell? w _ Df)).trans Df),((HB.out.cell (World.block_lt_of_cell? w _ Dc)).trans Dc),((HB.out.cell (World.block_lt_of_cell? w _ Db)).trans Db),((HB.out.cell (World.block_lt_of_cell? w _ Da)).trans Da),((HB.out.cell (World.block_lt_of_cell? w _ C9)).trans C9),((HB.out.cell (World.block_lt_of_cell? w _ Dq)).trans Dq),((HB.out.cell (World.block_lt_of_cell? w _ Dp)).trans Dp),((HB.out.cell (World.block_lt_of_cell? w _ Dn)).trans Dn),((HB.out.cell (World.block_lt_of_cell? w _ Dm)).trans Dm),((HB.out.cell (World.block_lt_of_cell? w _ Dl)).trans Dl),((HB.out.cell (World.block_lt_of_cell? w _ Dk)).trans Dk),((HB.out.cell (World.block_lt_of_cell? w _ Dj)).trans Dj)⟩ (fun hHeld=>?_);refine fC aC.sD aC.oD (fun HT_ HW_=>?_)
           generalize wr.drew = Gg at BF BG HB DK DL DT DW BK BL BN BO BP BQ BH BR BS BU BZ Ca Cb BI CJ CK CO CP CQ CS Ce CU CV CW CX CY CZ Cg hHeld ⊢
           refine pu_ 0 27 #[I,O,O,O,O,O,O,O,O,O,O,O,O,O,O,O,O,O,O,O,O,O,O,O,O,O,O,O,O] HT_.out ?_
           refine pu_ 2 29 #[I,O,I,O,O,O,O,O,O,O,O,O,O,O,O,O,O,O,O,O,O,O,O,O,O,O,O,O,O] HT_.out ?_
           refine pu_ 6 33 #[I,O,I,O,O,O,I,O,O,O,O,O,O,O,O,O,O,O,O,O,O,O,O,O,O,O,O,O,O] HT_.out ?_
           refine pu_ 8 35 #[I,O,I,O,O,O,I,O,I,O,O,O,O,O,O,O,O,O,O,O,O,O,O,O,O,O,O,O,O] HT_.out ?_
           refine ta_ 1 28 #[I,I,I,O,O,O,I,O,I,O,O,O,O,O,O,O,O,O,O,O,O,O,O,O,O,O,O,O,O] HT_.out HW_.out hHeld ?_
           refine pu_ 3 30 #[I,I,I,I,O,O,I,O,I,O,O,O,O,O,O,O,O,O,O,O,O,O,O,O,O,O,O,O,O] HT_.out ?_
           refine pu_ 4 31 #[I,I,I,I,I,O,I,O,I,O,O,O,O,O,O,O,O,O,O,O,O,O,O,O,O,O,O,O,O] HT_.out ?_
           refine ta_ 5 32 #[I,I,I,I,I,I,I,O,I,O,O,O,O,O,O,O,O,O,O,O,O,O,O,O,O,O,O,O,O] HT_.out HW_.out hHeld ?_
           refine ta_ 7 34 #[I,I,I,I,I,I,I,I,I,O,O,O,O,O,O,O,O,O,O,O,O,O,O,O,O,O,O,O,O] HT_.out HW_.out hHeld ?_
           refine pu_ 9 36 #[I,I,I,I,I,I,I,I,I,I,O,O,O,O,O,O,O,O,O,O,O,O,O,O,O,O,O,O,O] HT_.out ?_
           refine pu_ 10 37 #[I,I,I,I,I,I,I,I,I,I,I,O,O,O,O,O,O,O,O,O,O,O,O,O,O,O,O,O,O] HT_.out ?_
           refine ta_ 11 38 #[I,I,I,I,I,I,I,I,I,I,I,I,O,O,O,O,O,O,O,O,O,O,O,O,O,O,O,O,O] HT_.out HW_.out hHeld ?_
           refine pu_ 12 39 #[I,I,I,I,I,I,I,I,I,I,I,I,I,O,O,O,O,O,O,O,O,O,O,O,O,O,O,O,O] HT_.out ?_
           refine pu_ 13 40 #[I,I,I,I,I,I,I,I,I,I,I,I,I,I,O,O,O,O,O,O,O,O,O,O,O,O,O,O,O] HT_.out ?_
           refine pu_ 14 41 #[I,I,I,I,I,I,I,I,I,I,I,I,I,I,I,O,O,O,O,O,O,O,O,O,O,O,O,O,O] HT_.out ?_
           refine pu_ 16 43 #[I,I,I,I,I,I,I,I,I,I,I,I,I,I,I,O,I,O,O,O,O,O,O,O,O,O,O,O,O] HT_.out ?_
           refine pu_ 20 47 #[I,I,I,I,I,I,I,I,I,I,I,I,I,I,I,O,I,O,O,O,I,O,O,O,O,O,O,O,O] HT_.out ?_
           refine pu_ 22 49 #[I,I,I,I,I,I,I,I,I,I,I,I,I,I,I,O,I,O,O,O,I,O,I,O,O,O,O,O,O] HT_.out ?_
           refine ta_ 15 42 #[I,I,I,I,I,I,I,I,I,I,I,I,I,I,I,I,I,O,O,O,I,O,I,O,O,O,O,O,O] HT_.out HW_.out hHeld ?_
           refine pu_ 17 44 #[I,I,I,I,I,I,I,I,I,I,I,I,I,I,I,I,I,I,O,O,I,O,I,O,O,O,O,O,O] HT_.out ?_
           refine pu_ 18 45 #[I,I,I,I,I,I,I,I,I,I,I,I,I,I,I,I,I,I,I,O,I,O,I,O,O,O,O,O,O] HT_.out ?_
           refine ta_ 19 46 #[I,I,I,I,I,I,I,I,I,I,I,I,I,I,I,I,I,I,I,I,I,O,I,O,O,O,O,O,O] HT_.out HW_.out hHeld ?_
           refine ta_ 21 48 #[I,I,I,I,I,I,I,I,I,I,I,I,I,I,I,I,I,I,I,I,I,I,I,O,O,O,O,O,O] HT_.out HW_.out hHeld ?_
           refine pu_ 23 50 #[I,I,I,I,I,I,I,I,I,I,I,I,I,I,I,I,I,I,I,I,I,I,I,I,O,O,O,O,O] HT_.out ?_
           refine pu_ 24 51 #[I,I,I,I,I,I,I,I,I,I,I,I,I,I,I,I,I,I,I,I,I,I,I,I,I,O,O,O,O] HT_.out ?_
           refine ta_ 25 52 #[I,I,I,I,I,I,I,I,I,I,I,I,I,I,I,I,I,I,I,I,I,I,I,I,I,I,O,O,O] HT_.out HW_.out hHeld ?_
           refine fE (i:=26) (N:=some 53) #[I,I,I,I,I,I,I,I,I,I,I,I,I,I,I,I,I,I,I,I,I,I,I,I,I,I,I,O,O] rfl rfl (dh HT_.out (by kernel_rfl)) (by decide) (fun K hK=>?_)
           refine eH Tryz.func31 (by kernel_rfl) rfl #[.agg #[.string ((bA Bz Bu).f1.f0),.string ((bA Bz Bu).f1.f1),.int .i64 ((bA Bz Bu).f1.f2),.int .i64 ((bA Bz Bu).f1.f3),.bool ((bA Bz Bu).f1.f4),.slice Dz ((bA Bz Bu).f1.f5).length DC],.agg #[.string ((bA BD Bu).f1.f0),.string ((bA BD Bu).f1.f1),.int .i64 ((bA BD Bu).f1.f2),.int .i64 ((bA BD Bu).f1.f3),.bool ((bA BD Bu).f1.f4),.slice DF ((bA BD Bu).f1.f5).length DI]] (by rfl) rfl rfl (by (try simp only [List.map_toArray,List.map_cons,List.map_nil]);first|done|rfl|(simp only [List.length_drop,List.length_take];rfl)) ?_
           with_reducible refine (bV.calls k2 ((bA Bz Bu).f1.f0) ((bA Bz Bu).f1.f1) ((bA Bz Bu).f1.f2) ((bA Bz Bu).f1.f3) ((bA Bz Bu).f1.f4) _ _ ((bA Bz Bu).f1.f5) ((bA BD Bu).f1.f0) ((bA BD Bu).f1.f1) ((bA BD Bu).f1.f2) ((bA BD Bu).f1.f3) ((bA BD Bu).f1.f4) _ _ ((bA BD Bu).f1.f5) true _ ?EN ?EO ?EP ?ER FY.out).mono ?_
           (case EN=>repeat (first|exact (Kd.cZ DT.out HB.out)|(with_reducible refine Kd.dn ?_ _)|(with_reducible refine Kd.dw ?_ _)|(with_reducible refine Kd.dL ?_)))
           (case EO=>exact Ec.out)
           (case EP=>repeat (first|exact (Kd.cZ DW.out HB.out)|(with_reducible refine Kd.dn ?_ _)|(with_reducible refine Kd.dw ?_ _)|(with_reducible refine Kd.dL ?_)))
           (case ER=>exact Ed.out)
           rintro e Gh ⟨rfl,hb⟩
           refine ⟨_,rfl,?_⟩
           have D7:=Aside0.mk (aI (g:=BJ) (o:=.cells #[.int .u64 Cc,.slice (some Bv) Bz.length Dy] 47 (0,0)) (bk_ BF.out) hb)
           have D8:=Aside0.mk (aI (g:=C8) (o:=.cells #[.int .u64 CG,.slice (some Bw) BD.length DX] 47 (0,0)) (bk_ BG.out) hb)
           have D9:=Aside0.mk (aN hb_ hb)
           clear BF
           clear BG
           clear HB
           have BF:=D7
           have BG:=D8
           have HB:=D9
           clear D7 D8 D9
           (try clear hb)
           (try clear hb2)
           (try clear hk)
           (try clear hi)
           refine hK.out _ _ ⟨(ah BF.out 0).trans rfl,(ah BF.out 1).trans rfl,(ah BG.out 0).trans rfl,(ah BG.out 1).trans rfl,((HB.out.cell (World.block_lt_of_cell? w _ Co)).trans Co),((HB.out.cell (World.block_lt_of_cell? w _ Cn)).trans Cn),((HB.out.cell (World.block_lt_of_cell? w _ Cm)).trans Cm),((HB.out.cell (World.block_lt_of_cell? w _ Ck)).trans Ck),((HB.out.cell (World.block_lt_of_cell? w _ Cj)).trans Cj),((HB.out.cell (World.block_lt_of_cell? w _ Ci)).trans Ci),((HB.out.cell (World.block_lt_of_cell? w _ Ch)).trans Ch),((HB.out.cell (World.block_lt_of_cell? w _ Cz)).trans Cz),((HB.out.cell (World.block_lt_of_cell? w _ Cw)).trans Cw),((HB.out.cell (World.block_lt_of_cell? w _ Cv)).trans Cv),((HB.out.cell (World.block_lt_of_cell? w _ Cu)).trans Cu),((HB.out.cell (World.block_lt_of_cell? w _ Ct)).trans Ct),((HB.out.cell (World.block_lt_of_cell? w _ Cr)).trans Cr),((HB.out.cell (World.block_lt_of_cell? w _ Cq)).trans Cq),((HB.out.cell (World.block_lt_of_cell? w _ Di)).trans Di),((HB.out.cell (World.block_lt_of_cell? w _ Dh)).trans Dh),((HB.out.cell (World.block_lt_of_cell? w _ Df)).trans Df),((HB.out.cell (World.block_lt_of_cell? w _ Dc)).trans Dc),((HB.out.cell (World.block_lt_of_cell? w _ Db)).trans Db),((HB.out.cell (World.block_lt_of_cell? w _ Da)).trans Da),((HB.out.cell (World.block_lt_of_cell? w _ C9)).trans C9),((HB.out.cell (World.block_lt_of_cell? w _ Dq)).trans Dq),((HB.out.cell (World.block_lt_of_cell? w _ Dp)).trans Dp),((HB.out.cell (World.block_lt_of_cell? w _ Dn)).trans Dn),((HB.out.cell (World.block_lt_of_cell? w _ Dm)).trans Dm),((HB.out.cell (World.block_lt_of_cell? w _ Dl)).trans Dl),((HB.out.cell (World.block_lt_of_cell? w _ Dk)).trans Dk),((HB.out.cell (World.block_lt_of_cell? w _ Dj)).trans Dj)⟩ (fun hHeld=>?_)
           clear hK K
           refine dS (a':=?_) ?_ ?_
           rotate_left
           ·show Act.put _ (some 53) _ = _
            simp only [Act.put,List.setIfInBounds_toArray,List.set_cons_zero,List.set_cons_succ,bJ,bK]
            rfl
           refine pu_ 27 54 #[I,I,I,I,I,I,I,I,I,I,I,I,I,I,I,I,I,I,I,I,I,I,I,I,I,I,I,I,O] HT_.out ?_
           refine pu_ 28 55 #[I,I,I,I,I,I,I,I,I,I,I,I,I,I,I,I,I,I,I,I,I,I,I,I,I,I,I,I,I] HT_.out ?_
           refine jd (gI HT_.out (by kernel_rfl)) ?_
           try go_wp2
           go_roundg k2
           case measure=>have:=HJ2.out;have:=FX.out;omega
           case rel=>exact ⟨(wrap64 (Bu + 1)),(by first|rfl|(simp;done)|(simp [*];done)),H',⟨by have:=HJ2.out;have:=FX.out;omega⟩,⟨by (with_reducible repeat (first|apply aj|apply av|apply ak));exact BF.out⟩,⟨by (with_reducible repeat (first|apply aj|apply av|apply ak));exact BG.out⟩,⟨hb_⟩⟩
          ·replace c19:=Bool.eq_false_iff.mpr c19
           subst c19
           have H1 : (some false) = some r:=by rw [if_neg (show ¬ (false = true) by decide)] at H;exact H
           clear H
           have H:=H1
           clear H1
           obtain rfl:=Option.some.inj H
           have F4:=Dr.out
           have F5:=Dt.out
           have Fp : wr.cell? ⟨BJ,0,none⟩ = some (.int .u64 Cc):=(ah BF.out 0).trans rfl
           have Fq : wr.cell? ⟨BJ,1,none⟩ = some (.slice DJ Bz.length Dy):=(ah BF.out 1).trans rfl
           have Fu:=ay BF.out 0
           have Fv:=ay BF.out 1
           try go_wp2
           have D7:=Aside0.mk (av BF.out)
           have D8:=Aside0.mk (av BG.out)
           have D9:=Aside0.mk (bF HB.out)
           clear BF
           clear BG
           clear HB
           have BF:=D7
           have BG:=D8
           have HB:=D9
           clear D7 D8 D9
           have DY : 0 ≤ (Bu : Int):=of_decide_eq_true (by first|(with_reducible assumption)|assumption)
           have DZ : Bu < (Bz.length : Int):=of_decide_eq_true (by first|(with_reducible assumption)|assumption)
           obtain ⟨Bv,Dz,DC,EK,BK,BL,BN,BO,BP,BQ,BH,Du,Dv⟩:=jZ Ee.out Bu DY DZ
           have Ch:=BH
           have Ci:=BQ
           have Cj:=BP
           have Ck:=BO
           have Cm:=BN
           have Cn:=BL
           have Co:=BK
           cases EK
           replace BK:=(HB.out.cell (World.block_lt_of_cell? w _ BK)).trans BK
           replace BL:=(HB.out.cell (World.block_lt_of_cell? w _ BL)).trans BL
           replace BN:=(HB.out.cell (World.block_lt_of_cell? w _ BN)).trans BN
           replace BO:=(HB.out.cell (World.block_lt_of_cell? w _ BO)).trans BO
           replace BP:=(HB.out.cell (World.block_lt_of_cell? w _ BP)).trans BP
           replace BQ:=(HB.out.cell (World.block_lt_of_cell? w _ BQ)).trans BQ
           replace BH:=(HB.out.cell (World.block_lt_of_cell? w _ BH)).trans BH
           have DK:=Aside0.mk Dv
           have Ez:=Aside0.mk Du
           clear Dv Du
           replace DY:=eq_true DY
           replace DZ:=eq_true DZ
           have D5 : 0 ≤ (Bu : Int):=of_decide_eq_true (by first|(with_reducible assumption)|assumption)
           have D6 : Bu < (BD.length : Int):=of_decide_eq_true (by first|(with_reducible assumption)|assumption)
           obtain ⟨Bw,DF,DI,e240,BR,BS,BU,BZ,Ca,Cb,BI,Dw,Dx⟩:=jZ Ef.out Bu D5 D6
           have Cq:=BI
           have Cr:=Cb
           have Ct:=Ca
           have Cu:=BZ
           have Cv:=BU
           have Cw:=BS
           have Cz:=BR
           cases e240
           replace BR:=(HB.out.cell (World.block_lt_of_cell? w _ BR)).trans BR
           replace BS:=(HB.out.cell (World.block_lt_of_cell? w _ BS)).trans BS
           replace BU:=(HB.out.cell (World.block_lt_of_cell? w _ BU)).trans BU
           replace BZ:=(HB.out.cell (World.block_lt_of_cell? w _ BZ)).trans BZ
           replace Ca:=(HB.out.cell (World.block_lt_of_cell? w _ Ca)).trans Ca
           replace Cb:=(HB.out.cell (World.block_lt_of_cell? w _ Cb)).trans Cb
           replace BI:=(HB.out.cell (World.block_lt_of_cell? w _ BI)).trans BI
           have DL:=Aside0.mk Dx
           have EA:=Aside0.mk Dw
           clear Dx Dw
           replace D5:=eq_true D5
           replace D6:=eq_true D6
           have Ei : 0 ≤ (Bu : Int):=of_decide_eq_true (by first|(with_reducible assumption)|assumption)
           have Ej : Bu < (Bz.length : Int):=of_decide_eq_true (by first|(with_reducible assumption)|assumption)
           obtain ⟨EL,EZ,E5,e241,CJ,CK,CO,CP,CQ,CS,Ce,DN,DR⟩:=jZ Ee.out Bu Ei Ej
           have C9:=Ce
           have Da:=CS
           have Db:=CQ
           have Dc:=CP
           have Df:=CO
           have Dh:=CK
           have Di:=CJ
           obtain rfl : Bv = EL:=(by injection e241)
           replace CJ:=(HB.out.cell (World.block_lt_of_cell? w _ CJ)).trans CJ
           replace CK:=(HB.out.cell (World.block_lt_of_cell? w _ CK)).trans CK
           replace CO:=(HB.out.cell (World.block_lt_of_cell? w _ CO)).trans CO
           replace CP:=(HB.out.cell (World.block_lt_of_cell? w _ CP)).trans CP
           replace CQ:=(HB.out.cell (World.block_lt_of_cell? w _ CQ)).trans CQ
           replace CS:=(HB.out.cell (World.block_lt_of_cell? w _ CS)).trans CS
           replace Ce:=(HB.out.cell (World.block_lt_of_cell? w _ Ce)).trans Ce
           have DT:=Aside0.mk DR
           have Ec:=Aside0.mk DN
           clear DR DN
           replace Ei:=eq_true Ei
           replace Ej:=eq_true Ej
           have ea_:=Option.some.inj (BH.symm.trans Ce)
           injection ea_ with ea_ en_ ec_
           subst ea_
           subst ec_
           clear en_
           have El : 0 ≤ (Bu : Int):=of_decide_eq_true (by first|(with_reducible assumption)|assumption)
           have Em : Bu < (BD.length : Int):=of_decide_eq_true (by first|(with_reducible assumption)|assumption)
           obtain ⟨EM,E8,E9,e242,CU,CV,CW,CX,CY,CZ,Cg,DU,DV⟩:=jZ Ef.out Bu El Em
           have Dj:=Cg
           have Dk:=CZ
           have Dl:=CY
           have Dm:=CX
           have Dn:=CW
           have Dp:=CV
           have Dq:=CU
           obtain rfl : Bw = EM:=(by injection e242)
           replace CU:=(HB.out.cell (World.block_lt_of_cell? w _ CU)).trans CU
           replace CV:=(HB.out.cell (World.block_lt_of_cell? w _ CV)).trans CV
           replace CW:=(HB.out.cell (World.block_lt_of_cell? w _ CW)).trans CW
           replace CX:=(HB.out.cell (World.block_lt_of_cell? w _ CX)).trans CX
           replace CY:=(HB.out.cell (World.block_lt_of_cell? w _ CY)).trans CY
           replace CZ:=(HB.out.cell (World.block_lt_of_cell? w _ CZ)).trans CZ
           replace Cg:=(HB.out.cell (World.block_lt_of_cell? w _ Cg)).trans Cg
           have DW:=Aside0.mk DV
           have Ed:=Aside0.mk DU
           clear DV DU
           replace El:=eq_true El
           replace Em:=eq_true Em
           have ea_:=Option.some.inj (BI.symm.trans Cg)
           injection ea_ with ea_ en_ ec_
           subst ea_
           subst ec_
           clear en_
           refine iE (n:=29) (S:=fun w'=>w'.cell? ⟨BJ,0,none⟩ = some (.int .u64 Cc) ∧ w'.cell? ⟨BJ,1,none⟩ = some (.slice (some Bv) Bz.length Dy) ∧ w'.cell? ⟨C8,0,none⟩ = some (.int .u64 CG) ∧ w'.cell? ⟨C8,1,none⟩ = some (.slice (some Bw) BD.length DX) ∧ w'.cell? (Bv.add ((Bu).toNat * 7)) = some (.string ((bA Bz Bu).f0)) ∧ w'.cell? ⟨(Bv.add ((Bu).toNat * 7)).block,(Bv.add ((Bu).toNat * 7)).off + 1,none⟩ = some (.string ((bA Bz Bu).f1.f0)) ∧ w'.cell? ⟨(Bv.add ((Bu).toNat * 7)).block,(Bv.add ((Bu).toNat * 7)).off + 2,none⟩ = some (.string ((bA Bz Bu).f1.f1)) ∧ w'.cell? ⟨(Bv.add ((Bu).toNat * 7)).block,(Bv.add ((Bu).toNat * 7)).off + 3,none⟩ = some (.int .i64 ((bA Bz Bu).f1.f2)) ∧ w'.cell? ⟨(Bv.add ((Bu).toNat * 7)).block,(Bv.add ((Bu).toNat * 7)).off + 4,none⟩ = some (.int .i64 ((bA Bz Bu).f1.f3)) ∧ w'.cell? ⟨(Bv.add ((Bu).toNat * 7)).block,(Bv.add ((Bu).toNat * 7)).off + 5,none⟩ = some (.bool ((bA Bz Bu).f1.f4)) ∧ w'.cell? ⟨(Bv.add ((Bu).toNat * 7)).block,(Bv.add ((Bu).toNat * 7)).off + 6,none⟩ = some (.slice Dz ((bA Bz Bu).f1.f5).length DC) ∧ w'.cell? (Bw.add ((Bu).toNat * 7)) = some (.string ((bA BD Bu).f0)) ∧ w'.cell? ⟨(Bw.add ((Bu).toNat * 7)).block,(Bw.add ((Bu).toNat * 7)).off + 1,none⟩ = some (.string ((bA BD Bu).f1.f0)) ∧ w'.cell? ⟨(Bw.add ((Bu).toNat * 7)).block,(Bw.add ((Bu).toNat * 7)).off + 2,none⟩ = some (.string ((bA BD Bu).f1.f1)) ∧ w'.cell? ⟨(Bw.add ((Bu).toNat * 7)).block,(Bw.add ((Bu).toNat * 7)).off + 3,none⟩ = some (.int .i64 ((bA BD Bu).f1.f2)) ∧ w'.cell? ⟨(Bw.add ((Bu).toNat * 7)).block,(Bw.add ((Bu).toNat * 7)).off + 4,none⟩ = some (.int .i64 ((bA BD Bu).f1.f3)) ∧ w'.cell? ⟨(Bw.add ((Bu).toNat * 7)).block,(Bw.add ((Bu).toNat * 7)).off + 5,none⟩ = some (.bool ((bA BD Bu).f1.f4)) ∧ w'.cell? ⟨(Bw.add ((Bu).toNat * 7)).block,(Bw.add ((Bu).toNat * 7)).off + 6,none⟩ = some (.slice DF ((bA BD Bu).f1.f5).length DI) ∧ w'.cell? (Bv.add ((Bu).toNat * 7)) = some (.string ((bA Bz Bu).f0)) ∧ w'.cell? ⟨(Bv.add ((Bu).toNat * 7)).block,(Bv.add ((Bu).toNat * 7)).off + 1,none⟩ = some (.string ((bA Bz Bu).f1.f0)) ∧ w'.cell? ⟨(Bv.add ((Bu).toNat * 7)).block,(Bv.add ((Bu).toNat * 7)).off + 2,none⟩ = some (.string ((bA Bz Bu).f1.f1)) ∧ w'.cell? ⟨(Bv.add ((Bu).toNat * 7)).block,(Bv.add ((Bu).toNat * 7)).off + 3,none⟩ = some (.int .i64 ((bA Bz Bu).f1.f2)) ∧ w'.cell? ⟨(Bv.add ((Bu).toNat * 7)).block,(Bv.add ((Bu).toNat * 7)).off + 4,none⟩ = some (.int .i64 ((bA Bz Bu).f1.f3)) ∧ w'.cell? ⟨(Bv.add ((Bu).toNat * 7)).block,(Bv.add ((Bu).toNat * 7)).off + 5,none⟩ = some (.bool ((bA Bz Bu).f1.f4)) ∧ w'.cell? ⟨(Bv.add ((Bu).toNat * 7)).block,(Bv.add ((Bu).toNat * 7)).off + 6,none⟩ = some (.slice Dz ((bA Bz Bu).f1.f5).length DC) ∧ w'.cell? (Bw.add ((Bu).toNat * 7)) = some (.string ((bA BD Bu).f0)) ∧ w'.cell? ⟨(Bw.add ((Bu).toNat * 7)).block,(Bw.add ((Bu).toNat * 7)).off + 1,none⟩ = some (.string ((bA BD Bu).f1.f0)) ∧ w'.cell? ⟨(Bw.add ((Bu).toNat * 7)).block,(Bw.add ((Bu).toNat * 7)).off + 2,none⟩ = some (.string ((bA BD Bu).f1.f1)) ∧ w'.cell? ⟨(Bw.add ((Bu).toNat * 7)).block,(Bw.add ((Bu).toNat * 7)).off + 3,none⟩ = some (.int .i64 ((bA BD Bu).f1.f2)) ∧ w'.cell? ⟨(Bw.add ((Bu).toNat * 7)).block,(Bw.add ((Bu).toNat * 7)).off + 4,none⟩ = some (.int .i64 ((bA BD Bu).f1.f3)) ∧ w'.cell? ⟨(Bw.add ((Bu).toNat * 7)).block,(Bw.add ((Bu).toNat * 7)).off + 5,none⟩ = some (.bool ((bA BD Bu).f1.f4)) ∧ w'.cell? ⟨(Bw.add ((Bu).toNat * 7)).block,(Bw.add ((Bu).toNat * 7)).off + 6,none⟩ = some (.slice DF ((bA BD Bu).f1.f5).length DI)) (ds:=[]) #[O,O,O,O,O,O,O,O,O,O,O,O,O,O,O,O,O,O,O,O,O,O,O,O,O,O,O,O,O] (by kernel_rfl) rfl rfl ⟨(ah BF.out 0).trans rfl,(ah BF.out 1).trans rfl,(ah BG.out 0).trans rfl,(ah BG.out 1).trans rfl,((HB.out.cell (World.block_lt_of_cell? w _ Co)).trans Co),((HB.out.cell (World.block_lt_of_cell? w _ Cn)).trans Cn),((HB.out.cell (World.block_lt_of_cell? w _ Cm)).trans Cm),((HB.out.cell (World.block_lt_of_cell? w _ Ck)).trans Ck),((HB.out.cell (World.block_lt_of_cell? w _ Cj)).trans Cj),((HB.out.cell (World.block_lt_of_cell? w _ Ci)).trans Ci),((HB.out.cell (World.block_lt_of_cell? w _ Ch)).trans Ch),((HB.out.cell (World.block_lt_of_cell? w _ Cz)).trans Cz),((HB.out.cell (World.block_lt_of_cell? w _ Cw)).trans Cw),((HB.out.cell (World.block_lt_of_cell? w _ Cv)).trans Cv),((HB.out.cell (World.block_lt_of_cell? w _ Cu)).trans Cu),((HB.out.cell (World.block_lt_of_cell? w _ Ct)).trans Ct),((HB.out.cell (World.block_lt_of_cell? w _ Cr)).trans Cr),((HB.out.cell (World.block_lt_of_cell? w _ Cq)).trans Cq),((HB.out.cell (World.block_lt_of_cell? w _ Di)).trans Di),((HB.out.cell (World.block_lt_of_cell? w _ Dh)).trans Dh),((HB.out.cell (World.block_lt_of_cell? w _ Df)).trans Df),((HB.out.cell (World.block_lt_of_cell? w _ Dc)).trans Dc),((HB.out.cell (World.block_lt_of_cell? w _ Db)).trans Db),((HB.out.cell (World.block_lt_of_cell? w _ Da)).trans Da),((HB.out.cell (World.block_lt_of_cell? w _ C9)).trans C9),((HB.out.cell (World.block_lt_of_cell? w _ Dq)).trans Dq),((HB.out.cell (World.block_lt_of_cell? w _ Dp)).trans Dp),((HB.out.cell (World.block_lt_of_cell? w _ Dn)).trans Dn),((HB.out.cell (World.block_lt_of_cell? w _ Dm)).trans Dm),((HB.out.cell (World.block_lt_of_cell? w _ Dl)).trans Dl),((HB.out.cell (World.block_lt_of_cell? w _ Dk)).trans Dk),((HB.out.cell (World.block_lt_of_cell? w _ Dj)).trans Dj)⟩ (fun hHeld=>?_);refine fC aC.sD aC.oD (fun HT_ HW_=>?_)
           generalize wr.drew = Gi at BF BG HB DK DL DT DW BK BL BN BO BP BQ BH BR BS BU BZ Ca Cb BI CJ CK CO CP CQ CS Ce CU CV CW CX CY CZ Cg hHeld ⊢
           refine pu_ 0 27 #[I,O,O,O,O,O,O,O,O,O,O,O,O,O,O,O,O,O,O,O,O,O,O,O,O,O,O,O,O] HT_.out ?_
           refine pu_ 2 29 #[I,O,I,O,O,O,O,O,O,O,O,O,O,O,O,O,O,O,O,O,O,O,O,O,O,O,O,O,O] HT_.out ?_
           refine pu_ 6 33 #[I,O,I,O,O,O,I,O,O,O,O,O,O,O,O,O,O,O,O,O,O,O,O,O,O,O,O,O,O] HT_.out ?_
           refine pu_ 8 35 #[I,O,I,O,O,O,I,O,I,O,O,O,O,O,O,O,O,O,O,O,O,O,O,O,O,O,O,O,O] HT_.out ?_
           refine ta_ 1 28 #[I,I,I,O,O,O,I,O,I,O,O,O,O,O,O,O,O,O,O,O,O,O,O,O,O,O,O,O,O] HT_.out HW_.out hHeld ?_
           refine pu_ 3 30 #[I,I,I,I,O,O,I,O,I,O,O,O,O,O,O,O,O,O,O,O,O,O,O,O,O,O,O,O,O] HT_.out ?_
           refine pu_ 4 31 #[I,I,I,I,I,O,I,O,I,O,O,O,O,O,O,O,O,O,O,O,O,O,O,O,O,O,O,O,O] HT_.out ?_
           refine ta_ 5 32 #[I,I,I,I,I,I,I,O,I,O,O,O,O,O,O,O,O,O,O,O,O,O,O,O,O,O,O,O,O] HT_.out HW_.out hHeld ?_
           refine ta_ 7 34 #[I,I,I,I,I,I,I,I,I,O,O,O,O,O,O,O,O,O,O,O,O,O,O,O,O,O,O,O,O] HT_.out HW_.out hHeld ?_
           refine pu_ 9 36 #[I,I,I,I,I,I,I,I,I,I,O,O,O,O,O,O,O,O,O,O,O,O,O,O,O,O,O,O,O] HT_.out ?_
           refine pu_ 10 37 #[I,I,I,I,I,I,I,I,I,I,I,O,O,O,O,O,O,O,O,O,O,O,O,O,O,O,O,O,O] HT_.out ?_
           refine ta_ 11 38 #[I,I,I,I,I,I,I,I,I,I,I,I,O,O,O,O,O,O,O,O,O,O,O,O,O,O,O,O,O] HT_.out HW_.out hHeld ?_
           refine pu_ 12 39 #[I,I,I,I,I,I,I,I,I,I,I,I,I,O,O,O,O,O,O,O,O,O,O,O,O,O,O,O,O] HT_.out ?_
           refine pu_ 13 40 #[I,I,I,I,I,I,I,I,I,I,I,I,I,I,O,O,O,O,O,O,O,O,O,O,O,O,O,O,O] HT_.out ?_
           refine pu_ 14 41 #[I,I,I,I,I,I,I,I,I,I,I,I,I,I,I,O,O,O,O,O,O,O,O,O,O,O,O,O,O] HT_.out ?_
           refine pu_ 16 43 #[I,I,I,I,I,I,I,I,I,I,I,I,I,I,I,O,I,O,O,O,O,O,O,O,O,O,O,O,O] HT_.out ?_
           refine pu_ 20 47 #[I,I,I,I,I,I,I,I,I,I,I,I,I,I,I,O,I,O,O,O,I,O,O,O,O,O,O,O,O] HT_.out ?_
           refine pu_ 22 49 #[I,I,I,I,I,I,I,I,I,I,I,I,I,I,I,O,I,O,O,O,I,O,I,O,O,O,O,O,O] HT_.out ?_
           refine ta_ 15 42 #[I,I,I,I,I,I,I,I,I,I,I,I,I,I,I,I,I,O,O,O,I,O,I,O,O,O,O,O,O] HT_.out HW_.out hHeld ?_
           refine pu_ 17 44 #[I,I,I,I,I,I,I,I,I,I,I,I,I,I,I,I,I,I,O,O,I,O,I,O,O,O,O,O,O] HT_.out ?_
           refine pu_ 18 45 #[I,I,I,I,I,I,I,I,I,I,I,I,I,I,I,I,I,I,I,O,I,O,I,O,O,O,O,O,O] HT_.out ?_
           refine ta_ 19 46 #[I,I,I,I,I,I,I,I,I,I,I,I,I,I,I,I,I,I,I,I,I,O,I,O,O,O,O,O,O] HT_.out HW_.out hHeld ?_
           refine ta_ 21 48 #[I,I,I,I,I,I,I,I,I,I,I,I,I,I,I,I,I,I,I,I,I,I,I,O,O,O,O,O,O] HT_.out HW_.out hHeld ?_
           refine pu_ 23 50 #[I,I,I,I,I,I,I,I,I,I,I,I,I,I,I,I,I,I,I,I,I,I,I,I,O,O,O,O,O] HT_.out ?_
           refine pu_ 24 51 #[I,I,I,I,I,I,I,I,I,I,I,I,I,I,I,I,I,I,I,I,I,I,I,I,I,O,O,O,O] HT_.out ?_
           refine ta_ 25 52 #[I,I,I,I,I,I,I,I,I,I,I,I,I,I,I,I,I,I,I,I,I,I,I,I,I,I,O,O,O] HT_.out HW_.out hHeld ?_
           refine fE (i:=26) (N:=some 53) #[I,I,I,I,I,I,I,I,I,I,I,I,I,I,I,I,I,I,I,I,I,I,I,I,I,I,I,O,O] rfl rfl (dh HT_.out (by kernel_rfl)) (by decide) (fun K hK=>?_)
           refine eH Tryz.func31 (by kernel_rfl) rfl #[.agg #[.string ((bA Bz Bu).f1.f0),.string ((bA Bz Bu).f1.f1),.int .i64 ((bA Bz Bu).f1.f2),.int .i64 ((bA Bz Bu).f1.f3),.bool ((bA Bz Bu).f1.f4),.slice Dz ((bA Bz Bu).f1.f5).length DC],.agg #[.string ((bA BD Bu).f1.f0),.string ((bA BD Bu).f1.f1),.int .i64 ((bA BD Bu).f1.f2),.int .i64 ((bA BD Bu).f1.f3),.bool ((bA BD Bu).f1.f4),.slice DF ((bA BD Bu).f1.f5).length DI]] (by rfl) rfl rfl (by (try simp only [List.map_toArray,List.map_cons,List.map_nil]);first|done|rfl|(simp only [List.length_drop,List.length_take];rfl)) ?_
           with_reducible refine (bV.calls k2 ((bA Bz Bu).f1.f0) ((bA Bz Bu).f1.f1) ((bA Bz Bu).f1.f2) ((bA Bz Bu).f1.f3) ((bA Bz Bu).f1.f4) _ _ ((bA Bz Bu).f1.f5) ((bA BD Bu).f1.f0) ((bA BD Bu).f1.f1) ((bA BD Bu).f1.f2) ((bA BD Bu).f1.f3) ((bA BD Bu).f1.f4) _ _ ((bA BD Bu).f1.f5) false _ ?EN ?EO ?EP ?ER FY.out).mono ?_
           (case EN=>repeat (first|exact (Kd.cZ DT.out HB.out)|(with_reducible refine Kd.dn ?_ _)|(with_reducible refine Kd.dw ?_ _)|(with_reducible refine Kd.dL ?_)))
           (case EO=>exact Ec.out)
           (case EP=>repeat (first|exact (Kd.cZ DW.out HB.out)|(with_reducible refine Kd.dn ?_ _)|(with_reducible refine Kd.dw ?_ _)|(with_reducible refine Kd.dL ?_)))
           (case ER=>exact Ed.out)
           rintro e Gj ⟨rfl,hb⟩
           refine ⟨_,rfl,?_⟩
           have D7:=Aside0.mk (aI (g:=BJ) (o:=.cells #[.int .u64 Cc,.slice (some Bv) Bz.length Dy] 47 (0,0)) (bk_ BF.out) hb)
           have D8:=Aside0.mk (aI (g:=C8) (o:=.cells #[.int .u64 CG,.slice (some Bw) BD.length DX] 47 (0,0)) (bk_ BG.out) hb)
           have D9:=Aside0.mk (aN hb_ hb)
           clear BF
           clear BG
           clear HB
           have BF:=D7
           have BG:=D8
           have HB:=D9
           clear D7 D8 D9
           (try clear hb)
           (try clear hb2)
           (try clear hk)
           (try clear hi)
           refine hK.out _ _ ⟨(ah BF.out 0).trans rfl,(ah BF.out 1).trans rfl,(ah BG.out 0).trans rfl,(ah BG.out 1).trans rfl,((HB.out.cell (World.block_lt_of_cell? w _ Co)).trans Co),((HB.out.cell (World.block_lt_of_cell? w _ Cn)).trans Cn),((HB.out.cell (World.block_lt_of_cell? w _ Cm)).trans Cm),((HB.out.cell (World.block_lt_of_cell? w _ Ck)).trans Ck),((HB.out.cell (World.block_lt_of_cell? w _ Cj)).trans Cj),((HB.out.cell (World.block_lt_of_cell? w _ Ci)).trans Ci),((HB.out.cell (World.block_lt_of_cell? w _ Ch)).trans Ch),((HB.out.cell (World.block_lt_of_cell? w _ Cz)).trans Cz),((HB.out.cell (World.block_lt_of_cell? w _ Cw)).trans Cw),((HB.out.cell (World.block_lt_of_cell? w _ Cv)).trans Cv),((HB.out.cell (World.block_lt_of_cell? w _ Cu)).trans Cu),((HB.out.cell (World.block_lt_of_cell? w _ Ct)).trans Ct),((HB.out.cell (World.block_lt_of_cell? w _ Cr)).trans Cr),((HB.out.cell (World.block_lt_of_cell? w _ Cq)).trans Cq),((HB.out.cell (World.block_lt_of_cell? w _ Di)).trans Di),((HB.out.cell (World.block_lt_of_cell? w _ Dh)).trans Dh),((HB.out.cell (World.block_lt_of_cell? w _ Df)).trans Df),((HB.out.cell (World.block_lt_of_cell? w _ Dc)).trans Dc),((HB.out.cell (World.block_lt_of_cell? w _ Db)).trans Db),((HB.out.cell (World.block_lt_of_cell? w _ Da)).trans Da),((HB.out.cell (World.block_lt_of_cell? w _ C9)).trans C9),((HB.out.cell (World.block_lt_of_cell? w _ Dq)).trans Dq),((HB.out.cell (World.block_lt_of_cell? w _ Dp)).trans Dp),((HB.out.cell (World.block_lt_of_cell? w _ Dn)).trans Dn),((HB.out.cell (World.block_lt_of_cell? w _ Dm)).trans Dm),((HB.out.cell (World.block_lt_of_cell? w _ Dl)).trans Dl),((HB.out.cell (World.block_lt_of_cell? w _ Dk)).trans Dk),((HB.out.cell (World.block_lt_of_cell? w _ Dj)).trans Dj)⟩ (fun hHeld=>?_)
           clear hK K
           refine dS (a':=?_) ?_ ?_
           rotate_left
           ·show Act.put _ (some 53) _ = _
            simp only [Act.put,List.setIfInBounds_toArray,List.set_cons_zero,List.set_cons_succ,bJ,bK]
            rfl
           refine pu_ 27 54 #[I,I,I,I,I,I,I,I,I,I,I,I,I,I,I,I,I,I,I,I,I,I,I,I,I,I,I,I,O] HT_.out ?_
           refine pu_ 28 55 #[I,I,I,I,I,I,I,I,I,I,I,I,I,I,I,I,I,I,I,I,I,I,I,I,I,I,I,I,I] HT_.out ?_
           refine jd (gI HT_.out (by kernel_rfl)) ?_
           try go_wp2
           go_ret
           exact ⟨by first|rfl|(simp [bB,bC] <;> rfl)|(simp [*,bB,bC] <;> rfl),hb_⟩
         ·rw [if_neg c17] at H
          have c17b0 : (((bA Bz Bu).f0).toList == ((bA BD Bu).f0).toList) = false:=beq_eq_false_iff_ne.mpr c17
          have c17b1 : (((bA Bz Bu).f0).toList != ((bA BD Bu).f0).toList) = true:=bne_iff_ne.mpr c17
          obtain rfl:=Option.some.inj H
          have F6:=Dr.out
          have F7:=Dt.out
          have Fw : wr.cell? ⟨BJ,0,none⟩ = some (.int .u64 Cc):=(ah BF.out 0).trans rfl
          have Fx : wr.cell? ⟨BJ,1,none⟩ = some (.slice DJ Bz.length Dy):=(ah BF.out 1).trans rfl
          have Fy:=ay BF.out 0
          have Fz:=ay BF.out 1
          try go_wp2
          have D7:=Aside0.mk (av BF.out)
          have D8:=Aside0.mk (av BG.out)
          have D9:=Aside0.mk (bF HB.out)
          clear BF
          clear BG
          clear HB
          have BF:=D7
          have BG:=D8
          have HB:=D9
          clear D7 D8 D9
          have DY : 0 ≤ (Bu : Int):=of_decide_eq_true (by first|(with_reducible assumption)|assumption)
          have DZ : Bu < (Bz.length : Int):=of_decide_eq_true (by first|(with_reducible assumption)|assumption)
          obtain ⟨Bv,Dz,DC,EK,BK,BL,BN,BO,BP,BQ,BH,Du,Dv⟩:=jZ Ee.out Bu DY DZ
          have Ch:=BH
          have Ci:=BQ
          have Cj:=BP
          have Ck:=BO
          have Cm:=BN
          have Cn:=BL
          have Co:=BK
          cases EK
          replace BK:=(HB.out.cell (World.block_lt_of_cell? w _ BK)).trans BK
          replace BL:=(HB.out.cell (World.block_lt_of_cell? w _ BL)).trans BL
          replace BN:=(HB.out.cell (World.block_lt_of_cell? w _ BN)).trans BN
          replace BO:=(HB.out.cell (World.block_lt_of_cell? w _ BO)).trans BO
          replace BP:=(HB.out.cell (World.block_lt_of_cell? w _ BP)).trans BP
          replace BQ:=(HB.out.cell (World.block_lt_of_cell? w _ BQ)).trans BQ
          replace BH:=(HB.out.cell (World.block_lt_of_cell? w _ BH)).trans BH
          have DK:=Aside0.mk Dv
          have Ez:=Aside0.mk Du
          clear Dv Du
          replace DY:=eq_true DY
          replace DZ:=eq_true DZ
          have D5 : 0 ≤ (Bu : Int):=of_decide_eq_true (by first|(with_reducible assumption)|assumption)
          have D6 : Bu < (BD.length : Int):=of_decide_eq_true (by first|(with_reducible assumption)|assumption)
          obtain ⟨Bw,DF,DI,e240,BR,BS,BU,BZ,Ca,Cb,BI,Dw,Dx⟩:=jZ Ef.out Bu D5 D6
          have Cq:=BI
          have Cr:=Cb
          have Ct:=Ca
          have Cu:=BZ
          have Cv:=BU
          have Cw:=BS
          have Cz:=BR
          cases e240
          replace BR:=(HB.out.cell (World.block_lt_of_cell? w _ BR)).trans BR
          replace BS:=(HB.out.cell (World.block_lt_of_cell? w _ BS)).trans BS
          replace BU:=(HB.out.cell (World.block_lt_of_cell? w _ BU)).trans BU
          replace BZ:=(HB.out.cell (World.block_lt_of_cell? w _ BZ)).trans BZ
          replace Ca:=(HB.out.cell (World.block_lt_of_cell? w _ Ca)).trans Ca
          replace Cb:=(HB.out.cell (World.block_lt_of_cell? w _ Cb)).trans Cb
          replace BI:=(HB.out.cell (World.block_lt_of_cell? w _ BI)).trans BI
          have DL:=Aside0.mk Dx
          have EA:=Aside0.mk Dw
          clear Dx Dw
          replace D5:=eq_true D5
          replace D6:=eq_true D6
          refine iE (n:=29) (S:=fun w'=>w'.cell? ⟨BJ,0,none⟩ = some (.int .u64 Cc) ∧ w'.cell? ⟨BJ,1,none⟩ = some (.slice (some Bv) Bz.length Dy) ∧ w'.cell? ⟨C8,0,none⟩ = some (.int .u64 CG) ∧ w'.cell? ⟨C8,1,none⟩ = some (.slice (some Bw) BD.length DX) ∧ w'.cell? (Bv.add ((Bu).toNat * 7)) = some (.string ((bA Bz Bu).f0)) ∧ w'.cell? ⟨(Bv.add ((Bu).toNat * 7)).block,(Bv.add ((Bu).toNat * 7)).off + 1,none⟩ = some (.string ((bA Bz Bu).f1.f0)) ∧ w'.cell? ⟨(Bv.add ((Bu).toNat * 7)).block,(Bv.add ((Bu).toNat * 7)).off + 2,none⟩ = some (.string ((bA Bz Bu).f1.f1)) ∧ w'.cell? ⟨(Bv.add ((Bu).toNat * 7)).block,(Bv.add ((Bu).toNat * 7)).off + 3,none⟩ = some (.int .i64 ((bA Bz Bu).f1.f2)) ∧ w'.cell? ⟨(Bv.add ((Bu).toNat * 7)).block,(Bv.add ((Bu).toNat * 7)).off + 4,none⟩ = some (.int .i64 ((bA Bz Bu).f1.f3)) ∧ w'.cell? ⟨(Bv.add ((Bu).toNat * 7)).block,(Bv.add ((Bu).toNat * 7)).off + 5,none⟩ = some (.bool ((bA Bz Bu).f1.f4)) ∧ w'.cell? ⟨(Bv.add ((Bu).toNat * 7)).block,(Bv.add ((Bu).toNat * 7)).off + 6,none⟩ = some (.slice Dz ((bA Bz Bu).f1.f5).length DC) ∧ w'.cell? (Bw.add ((Bu).toNat * 7)) = some (.string ((bA BD Bu).f0)) ∧ w'.cell? ⟨(Bw.add ((Bu).toNat * 7)).block,(Bw.add ((Bu).toNat * 7)).off + 1,none⟩ = some (.string ((bA BD Bu).f1.f0)) ∧ w'.cell? ⟨(Bw.add ((Bu).toNat * 7)).block,(Bw.add ((Bu).toNat * 7)).off + 2,none⟩ = some (.string ((bA BD Bu).f1.f1)) ∧ w'.cell? ⟨(Bw.add ((Bu).toNat * 7)).block,(Bw.add ((Bu).toNat * 7)).off + 3,none⟩ = some (.int .i64 ((bA BD Bu).f1.f2)) ∧ w'.cell? ⟨(Bw.add ((Bu).toNat * 7)).block,(Bw.add ((Bu).toNat * 7)).off + 4,none⟩ = some (.int .i64 ((bA BD Bu).f1.f3)) ∧ w'.cell? ⟨(Bw.add ((Bu).toNat * 7)).block,(Bw.add ((Bu).toNat * 7)).off + 5,none⟩ = some (.bool ((bA BD Bu).f1.f4)) ∧ w'.cell? ⟨(Bw.add ((Bu).toNat * 7)).block,(Bw.add ((Bu).toNat * 7)).off + 6,none⟩ = some (.slice DF ((bA BD Bu).f1.f5).length DI)) (ds:=[]) #[O,O,O,O,O,O,O,O,O,O,O,O,O,O,O,O,O,O,O,O,O,O,O,O,O,O,O,O,O] (by kernel_rfl) rfl rfl ⟨(ah BF.out 0).trans rfl,(ah BF.out 1).trans rfl,(ah BG.out 0).trans rfl,(ah BG.out 1).trans rfl,((HB.out.cell (World.block_lt_of_cell? w _ Co)).trans Co),((HB.out.cell (World.block_lt_of_cell? w _ Cn)).trans Cn),((HB.out.cell (World.block_lt_of_cell? w _ Cm)).trans Cm),((HB.out.cell (World.block_lt_of_cell? w _ Ck)).trans Ck),((HB.out.cell (World.block_lt_of_cell? w _ Cj)).trans Cj),((HB.out.cell (World.block_lt_of_cell? w _ Ci)).trans Ci),((HB.out.cell (World.block_lt_of_cell? w _ Ch)).trans Ch),((HB.out.cell (World.block_lt_of_cell? w _ Cz)).trans Cz),((HB.out.cell (World.block_lt_of_cell? w _ Cw)).trans Cw),((HB.out.cell (World.block_lt_of_cell? w _ Cv)).trans Cv),((HB.out.cell (World.block_lt_of_cell? w _ Cu)).trans Cu),((HB.out.cell (World.block_lt_of_cell? w _ Ct)).trans Ct),((HB.out.cell (World.block_lt_of_cell? w _ Cr)).trans Cr),((HB.out.cell (World.block_lt_of_cell? w _ Cq)).trans Cq)⟩ (fun hHeld=>?_);refine fC aC.sD aC.oD (fun HT_ HW_=>?_)
          generalize wr.drew = Gl at BF BG HB DK DL BK BL BN BO BP BQ BH BR BS BU BZ Ca Cb BI hHeld ⊢
          refine pu_ 0 27 #[I,O,O,O,O,O,O,O,O,O,O,O,O,O,O,O,O,O,O,O,O,O,O,O,O,O,O,O,O] HT_.out ?_
          refine pu_ 2 29 #[I,O,I,O,O,O,O,O,O,O,O,O,O,O,O,O,O,O,O,O,O,O,O,O,O,O,O,O,O] HT_.out ?_
          refine pu_ 6 33 #[I,O,I,O,O,O,I,O,O,O,O,O,O,O,O,O,O,O,O,O,O,O,O,O,O,O,O,O,O] HT_.out ?_
          refine pu_ 8 35 #[I,O,I,O,O,O,I,O,I,O,O,O,O,O,O,O,O,O,O,O,O,O,O,O,O,O,O,O,O] HT_.out ?_
          refine ta_ 1 28 #[I,I,I,O,O,O,I,O,I,O,O,O,O,O,O,O,O,O,O,O,O,O,O,O,O,O,O,O,O] HT_.out HW_.out hHeld ?_
          refine pu_ 3 30 #[I,I,I,I,O,O,I,O,I,O,O,O,O,O,O,O,O,O,O,O,O,O,O,O,O,O,O,O,O] HT_.out ?_
          refine pu_ 4 31 #[I,I,I,I,I,O,I,O,I,O,O,O,O,O,O,O,O,O,O,O,O,O,O,O,O,O,O,O,O] HT_.out ?_
          refine ta_ 5 32 #[I,I,I,I,I,I,I,O,I,O,O,O,O,O,O,O,O,O,O,O,O,O,O,O,O,O,O,O,O] HT_.out HW_.out hHeld ?_
          refine ta_ 7 34 #[I,I,I,I,I,I,I,I,I,O,O,O,O,O,O,O,O,O,O,O,O,O,O,O,O,O,O,O,O] HT_.out HW_.out hHeld ?_
          refine pu_ 9 36 #[I,I,I,I,I,I,I,I,I,I,O,O,O,O,O,O,O,O,O,O,O,O,O,O,O,O,O,O,O] HT_.out ?_
          refine pu_ 10 37 #[I,I,I,I,I,I,I,I,I,I,I,O,O,O,O,O,O,O,O,O,O,O,O,O,O,O,O,O,O] HT_.out ?_
          refine ta_ 11 38 #[I,I,I,I,I,I,I,I,I,I,I,I,O,O,O,O,O,O,O,O,O,O,O,O,O,O,O,O,O] HT_.out HW_.out hHeld ?_
          refine pu_ 12 39 #[I,I,I,I,I,I,I,I,I,I,I,I,I,O,O,O,O,O,O,O,O,O,O,O,O,O,O,O,O] HT_.out ?_
          refine pu_ 13 40 #[I,I,I,I,I,I,I,I,I,I,I,I,I,I,O,O,O,O,O,O,O,O,O,O,O,O,O,O,O] HT_.out ?_
          refine pz_ 14 41 #[I,I,I,I,I,I,I,I,I,I,I,I,I,I,I,O,O,O,O,O,O,O,O,O,O,O,O,O,O] HT_.out ?_
          refine pz_ 15 42 #[I,I,I,I,I,I,I,I,I,I,I,I,I,I,I,I,O,O,O,O,O,O,O,O,O,O,O,O,O] HT_.out ?_
          refine pz_ 16 43 #[I,I,I,I,I,I,I,I,I,I,I,I,I,I,I,I,I,O,O,O,O,O,O,O,O,O,O,O,O] HT_.out ?_
          refine pz_ 17 44 #[I,I,I,I,I,I,I,I,I,I,I,I,I,I,I,I,I,I,O,O,O,O,O,O,O,O,O,O,O] HT_.out ?_
          refine pz_ 18 45 #[I,I,I,I,I,I,I,I,I,I,I,I,I,I,I,I,I,I,I,O,O,O,O,O,O,O,O,O,O] HT_.out ?_
          refine pz_ 19 46 #[I,I,I,I,I,I,I,I,I,I,I,I,I,I,I,I,I,I,I,I,O,O,O,O,O,O,O,O,O] HT_.out ?_
          refine pz_ 20 47 #[I,I,I,I,I,I,I,I,I,I,I,I,I,I,I,I,I,I,I,I,I,O,O,O,O,O,O,O,O] HT_.out ?_
          refine pz_ 21 48 #[I,I,I,I,I,I,I,I,I,I,I,I,I,I,I,I,I,I,I,I,I,I,O,O,O,O,O,O,O] HT_.out ?_
          refine pz_ 22 49 #[I,I,I,I,I,I,I,I,I,I,I,I,I,I,I,I,I,I,I,I,I,I,I,O,O,O,O,O,O] HT_.out ?_
          refine pz_ 23 50 #[I,I,I,I,I,I,I,I,I,I,I,I,I,I,I,I,I,I,I,I,I,I,I,I,O,O,O,O,O] HT_.out ?_
          refine pz_ 24 51 #[I,I,I,I,I,I,I,I,I,I,I,I,I,I,I,I,I,I,I,I,I,I,I,I,I,O,O,O,O] HT_.out ?_
          refine pz_ 25 52 #[I,I,I,I,I,I,I,I,I,I,I,I,I,I,I,I,I,I,I,I,I,I,I,I,I,I,O,O,O] HT_.out ?_
          refine pz_ 26 53 #[I,I,I,I,I,I,I,I,I,I,I,I,I,I,I,I,I,I,I,I,I,I,I,I,I,I,I,O,O] HT_.out ?_
          refine pz_ 27 54 #[I,I,I,I,I,I,I,I,I,I,I,I,I,I,I,I,I,I,I,I,I,I,I,I,I,I,I,I,O] HT_.out ?_
          refine pu_ 28 55 #[I,I,I,I,I,I,I,I,I,I,I,I,I,I,I,I,I,I,I,I,I,I,I,I,I,I,I,I,I] HT_.out ?_
          refine jd (gI HT_.out (by kernel_rfl)) ?_
          try go_wp2
          go_ret
          exact ⟨by first|rfl|(simp [bB,bC] <;> rfl)|(simp [*,bB,bC] <;> rfl),hb_⟩
        ·rw [if_neg c16] at H
         exact absurd H (by simp)
       ·rw [if_neg c15] at H
        exact absurd H (by simp)
      ·rw [if_neg c14] at H
       have c14b0 : decide (Bu < (Bz.length : Int)) = false:=decide_eq_false c14
       clear c14
       obtain rfl:=Option.some.inj H
       have F8:=Dr.out
       have F9:=Dt.out
       have FB : wr.cell? ⟨BJ,0,none⟩ = some (.int .u64 Cc):=(ah BF.out 0).trans rfl
       have FC : wr.cell? ⟨BJ,1,none⟩ = some (.slice DJ Bz.length Dy):=(ah BF.out 1).trans rfl
       have FD:=ay BF.out 0
       have FE:=ay BF.out 1
       go_wp2
       go_ret
       exact ⟨by first|rfl|(simp [bB,bC] <;> rfl)|(simp [*,bB,bC] <;> rfl),hb_⟩
end Go.Proofs.YtpncpefppifgdaaGreatDoor.GUt
