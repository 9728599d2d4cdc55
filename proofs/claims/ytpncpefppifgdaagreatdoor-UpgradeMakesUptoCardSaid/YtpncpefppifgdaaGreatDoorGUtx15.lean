/- Written by this session's own program (wip/gen.py) out of the translation: plain Lean functions of the Go functions, and proofs that the calls come to their answers. No conditions beside those in the statements. -/
import Derived.Test.YtpncpefppifgdaaGreatDoorCp
import Derived.Test.YtpncpefppifgdaaGreatDoorGUtx0
namespace Go.Proofs.YtpncpefppifgdaaGreatDoor.GUt
open Go.RowKit Go.Proofs.YtpncpefppifgdaaGreatDoorW.PrintWords Go.Proofs.YtpncpefppifgdaaGreatDoorW.PrintLast Go.Proofs.YtpncpefppifgdaaGreatDoorW.PrintMore
attribute [local go_sem] fZ gq gM gN fM fO gu gD
set_option linter.unusedVariables false
set_option linter.unusedSimpArgs false
def bS.l0 : Nat → List (S67) → Int → Int → Int → List (S85) → Option (Int × (List (S85)))
 | 0,_,_,_,_,_=>none
 | k + 1,x10,MB,Ie,Fy,EO=>if Ie < MB then (if 0 ≤ Ie then (if Ie < (x10.length : Int) then (if EO.length < 2513169434916 then (bS.l0 k x10 MB (wrap64 (Ie + 1)) Fy (EO ++ [(⟨(dA x10 Ie).f0,(dA x10 Ie).f1,(dA x10 Ie).f2,(dA x10 Ie).f3⟩ : S85)])) else (none)) else (none)) else (none)) else (some (Fy,EO))
def bS.f (k : Nat) (Bw : Int) (Bu : List (S67)) : Option (Int × (List (S85))):=bS.l0 k Bu (Bu.length : Int) 0 Bw ([] : List (S85))
theorem bS.eB : ∀ k,(∀ y0 y1 y2 y3 y4,LeO (bS.l0 k y0 y1 y2 y3 y4) (bS.l0 (k + 1) y0 y1 y2 y3 y4))
 | 0=>fun _ _ _ _ _ r h=>by simp [bS.l0] at h
 | k + 1=>by
  have Eu:=bS.eB k
  ·intro y0 y1 y2 y3 y4
   unfold bS.l0
   repeat' first
   | (with_reducible exact Eu _ _ _ _ _)
   | (with_reducible exact LeO.refl _)
   | (with_reducible exact LeO.none _)
   | (with_reducible refine LeO.ite ?_ ?_)
   | (with_reducible refine LeO.bind ?_ (fun _=>?_))
   | exact Eu _ _ _ _ _
   | exact LeO.none _
   | refine LeO.ite ?_ ?_
   | refine LeO.bind ?_ (fun _=>?_)
theorem bS.mono : ∀ a0 a1 k,LeO (bS.f k a0 a1) (bS.f (k + 1) a0 a1):=by
 intro a0 a1 k
 have Eu:=bS.eB k
 unfold bS.f
 repeat' first
   | (with_reducible exact Eu _ _ _ _ _)
   | (with_reducible exact LeO.refl _)
   | (with_reducible exact LeO.none _)
   | (with_reducible refine LeO.ite ?_ ?_)
   | (with_reducible refine LeO.bind ?_ (fun _=>?_))
   | exact Eu _ _ _ _ _
   | exact LeO.none _
   | refine LeO.ite ?_ ?_
   | refine LeO.bind ?_ (fun _=>?_)
set_option maxHeartbeats 8000000 in
set_option maxRecDepth 100000 in
theorem bS.calls (k : Nat) (Bw : Int) (Cr : Option Addr) (BP : Nat) (Bu : List (S67)) (r1 : Int) (r2 : List (S85)) (w : World) (Ep : Kd.C k67 w Cr Bu.length Bu) (Er : Bu.length ≤ BP) (h : bS.f k Bw Bu = some (r1,r2)) :
  Calls Tryz.prog 9 #[.agg #[.int .u32 Bw,.slice Cr Bu.length BP]] w fun e w'=>∃ Ig : Value,e = .returned (.agg #[.int .u32 r1,Ig]) ∧ Kd.R k85 85 w' w.heap.size (fun _=>True) Ig r2 ∧ Below w.heap.size w w':=by
 have Oy:=Tryz.underlying25
 have Ma:=Tryz.underlying35
 have Oz:=Tryz.underlying67
 have Fb:=Aside0.mk Ep
 have Ih:=Aside0.mk Er
 clear Ep Er
 have HB:=Aside0.mk (Below.refl w.heap.size w)
 have H : (bS.l0 k Bu (Bu.length : Int) 0 Bw ([] : List (S85))) = some (r1,r2):=h
 clear h
 have H':=Aside0.mk H
 clear H
 go_enter Tryz.func9,Tryz.ntmps9
 go_wp2_with (first|((with_reducible refine dz (N:=1) rfl ?_);refine dJ ?hg (N:=1) ?hd (cs:=#[.int .u32 Bw,.slice Cr Bu.length BP]) (t:=25) ?hr ?_;(case hd=>rfl);(case hg=>rfl);(case hr=>first|(go_simp;done)|(go_simp;rfl));intro CF hg w2 hbox hb;have CX:=Aside0.mk (aN hb_ hb);have CY:=Aside0.mk (hbox);have CZ:=Aside0.mk ((by rw [hg];exact (aU hb_) : w.heap.size ≤ CF));have C8:=Aside0.mk ((by rw [hg];exact (aU hb_) : w.heap.size ≤ CF));clear HB;have HB:=CX;have Ci:=CY;have MC:=CZ;have ME:=C8;clear CX CY CZ C8;clear hb hbox hg)|((with_reducible refine dz (N:=2) rfl ?_);refine dJ ?hg (N:=2) ?hd (cs:=#[.int .u32 0,.slice none 0 0]) (t:=35) ?hr ?_;(case hd=>rfl);(case hg=>rfl);(case hr=>first|(go_simp;done)|(go_simp;rfl));intro CS hg w3 hbox hb;have CX:=Aside0.mk (aI (g:=CF) (o:=.cells #[.int .u32 Bw,.slice Cr Bu.length BP] 25 (0,0)) (bk_ Ci.out) hb);have CY:=Aside0.mk (aN hb_ hb);have CZ:=Aside0.mk (hbox);have C8:=Aside0.mk ((by rw [hg];exact (aU hb_) : w.heap.size ≤ CS));have Dl:=Aside0.mk ((by rw [hg];exact (aU hb_) : w.heap.size ≤ CS));have Dm:=Aside0.mk ((by rw [hg];exact Nat.ne_of_lt (bE (g:=CF) (o:=.cells #[.int .u32 Bw,.slice Cr Bu.length BP] 25 (0,0)) (bk_ Ci.out)) : CF ≠ CS));have Dp:=Aside0.mk ((by rw [hg];exact Nat.ne_of_gt (bE (g:=CF) (o:=.cells #[.int .u32 Bw,.slice Cr Bu.length BP] 25 (0,0)) (bk_ Ci.out)) : CS ≠ CF));clear Ci;clear HB;have Ci:=CX;have HB:=CY;have CG:=CZ;have MF:=C8;have MG:=Dl;have EJ:=Dm;have EK:=Dp;clear CX CY CZ C8 Dl Dm Dp;clear hb hbox hg;have IX:=EJ.out;have IY:=EK.out;have DT : w3.cell? ⟨CF,0,none⟩ = some (.int .u32 Bw):=(ah Ci.out 0).trans rfl;have DU : w3.cell? ⟨CF,1,none⟩ = some (.slice Cr Bu.length BP):=(ah Ci.out 1).trans rfl;have DV:=ay Ci.out 0;have DW:=ay Ci.out 1)|((with_reducible refine dz (N:=3) rfl ?_);refine dJ ?hg (N:=3) ?hd (cs:=#[.int .u32 0,.slice none 0 0]) (t:=35) ?hr ?_;(case hd=>rfl);(case hg=>rfl);(case hr=>first|(go_simp;done)|(go_simp;rfl));intro CO hg w6 hbox hb;have CX:=Aside0.mk (aI (g:=CF) (o:=.cells #[.int .u32 Bw,.slice Cr Bu.length BP] 25 (0,0)) (bk_ Ci.out) hb);have CY:=Aside0.mk (aI (g:=CS) (o:=.cells #[.int .u32 0,.slice none 0 0] 35 (0,0)) (bk_ CG.out) hb);have CZ:=Aside0.mk (aN hb_ hb);have C8:=Aside0.mk (hbox);have Dl:=Aside0.mk ((by rw [hg];exact (aU hb_) : w.heap.size ≤ CO));have Dm:=Aside0.mk ((by rw [hg];exact (aU hb_) : w.heap.size ≤ CO));have Dp:=Aside0.mk ((by rw [hg];exact Nat.ne_of_lt (bE (g:=CF) (o:=.cells #[.int .u32 Bw,.slice Cr Bu.length BP] 25 (0,0)) (bk_ Ci.out)) : CF ≠ CO));have Es:=Aside0.mk ((by rw [hg];exact Nat.ne_of_gt (bE (g:=CF) (o:=.cells #[.int .u32 Bw,.slice Cr Bu.length BP] 25 (0,0)) (bk_ Ci.out)) : CO ≠ CF));have Et:=Aside0.mk ((by rw [hg];exact Nat.ne_of_lt (bE (g:=CS) (o:=.cells #[.int .u32 0,.slice none 0 0] 35 (0,0)) (bk_ CG.out)) : CS ≠ CO));have EI:=Aside0.mk ((by rw [hg];exact Nat.ne_of_gt (bE (g:=CS) (o:=.cells #[.int .u32 0,.slice none 0 0] 35 (0,0)) (bk_ CG.out)) : CO ≠ CS));clear Ci;clear CG;clear HB;have Ci:=CX;have CG:=CY;have HB:=CZ;have Ck:=C8;have MH:=Dl;have MI:=Dm;have Dc:=Dp;have DX:=Es;have Df:=Et;have DY:=EI;clear CX CY CZ C8 Dl Dm Dp Es Et EI;clear hb hbox hg;have IZ:=DX.out;have I4:=Dc.out;have I5:=DY.out;have I6:=Df.out;have DZ : w6.cell? ⟨CO,0,none⟩ = some (.int .u32 0):=(ah Ck.out 0).trans rfl;have D5 : w6.cell? ⟨CO,1,none⟩ = some (.slice none 0 0):=(ah Ck.out 1).trans rfl;have D6:=ay Ck.out 0;have D7:=ay Ck.out 1;have Ew : w6.cell? ⟨CF,0,none⟩ = some (.int .u32 Bw):=(ah Ci.out 0).trans rfl;have Ey : w6.cell? ⟨CF,1,none⟩ = some (.slice Cr Bu.length BP):=(ah Ci.out 1).trans rfl;have Ez:=ay Ci.out 0;have EA:=ay Ci.out 1))
 go_loopg [12] k (fun kq v12 w'=>∃ (BN : Int) (CV : List (S85)) (CU : Value),v12 = .int .i64 BN ∧ Aside0 (bS.l0 kq Bu (Bu.length : Int) BN Bw CV = some (r1,r2)) ∧ Aside0 (kq ≤ k) ∧ Aside0 (Kd.R k85 85 w' w.heap.size (fun _=>True) CU CV) ∧ Aside0 (w'.heap[CF]? = some (.cells #[.int .u32 Bw,(.slice Cr Bu.length BP)] 25 (0,0))) ∧ Aside0 (w'.heap[CS]? = some (.cells #[.int .u32 0,(.slice none 0 0)] 35 (0,0))) ∧ Aside0 (w'.heap[CO]? = some (.cells #[.int .u32 Bw,CU] 35 (0,0))) ∧ Aside0 (Below w.heap.size w w'))
 case atStart=>exact ⟨(0),(([] : List (S85))),(.slice none 0 0),(by first|rfl|(simp;done)|(simp [*];done)),H',⟨Nat.le_refl _⟩,⟨by first|exact Kd.jy _ _ _ _ _|exact Kd.kQ _ _ _ _ _|exact Kd.pU _ _ _ _ _|exact Kd.pG _ _ _ _ _|exact Kd.pK _ _ _ _ _⟩,⟨by (with_reducible repeat (first|apply aj|apply av|apply ak));refine aH ?_ Dc.out _;(with_reducible repeat (first|apply aj|apply av|apply ak));refine aH ?_ Dc.out _;(with_reducible repeat (first|apply aj|apply av|apply ak));exact Ci.out⟩,⟨by (with_reducible repeat (first|apply aj|apply av|apply ak));refine aH ?_ Df.out _;(with_reducible repeat (first|apply aj|apply av|apply ak));refine aH ?_ Df.out _;(with_reducible repeat (first|apply aj|apply av|apply ak));exact CG.out⟩,⟨by (with_reducible repeat (first|apply aj|apply av|apply ak));refine aT (cs:=#[.int .u32 Bw,.slice none 0 0]) ?_ 1 _ rfl;(with_reducible repeat (first|apply aj|apply av|apply ak));refine aT (cs:=#[.int .u32 0,.slice none 0 0]) ?_ 0 _ rfl;(with_reducible repeat (first|apply aj|apply av|apply ak));exact Ck.out⟩,⟨hb_⟩⟩
 case round =>
  clear H'
  try clear p2
  try clear c4
  try clear c7
  try clear c8
  try clear c9
  try clear Ew
  try clear Ey
  try clear DT
  try clear DU
  try clear DZ
  try clear D5
  try clear Ez
  try clear EA
  try clear DV
  try clear DW
  try clear D6
  try clear D7
  obtain ⟨BN,CV,CU,rfl,HA,FV,Cm,Ci,CG,Ck,HB⟩:=hrel
  cases gk with
  | zero=>exact absurd HA.out (by simp [bS.l0])
  | succ k1 =>
   have H:=HA.out
   clear HA
   simp only [bS.l0] at H
   by_cases c11 : BN < (Bu.length : Int)
   ·rw [if_pos c11] at H
    have c11b0 : decide (BN < (Bu.length : Int)) = true:=decide_eq_true c11
    clear c11
    by_cases c12 : 0 ≤ BN
    ·rw [if_pos c12] at H
     have c12b0 : decide (0 ≤ BN) = true:=decide_eq_true c12
     clear c12
     by_cases c13 : BN < (Bu.length : Int)
     ·rw [if_pos c13] at H
      have c13b0 : decide (BN < (Bu.length : Int)) = true:=decide_eq_true c13
      clear c13
      by_cases c14 : CV.length < 2513169434916
      ·rw [if_pos c14] at H
       have I7:=Aside0.mk c14
       clear c14
       obtain ⟨Gm,Fe⟩ : ∃ y_ : List (S85),y_ = (CV ++ [(⟨(dA Bu BN).f0,(dA Bu BN).f1,(dA Bu BN).f2,(dA Bu BN).f3⟩ : S85)]):=⟨_,rfl⟩
       replace H : (bS.l0 k1 Bu (Bu.length : Int) (wrap64 (BN + 1)) Bw Gm) = some (r1,r2):=by first|(rw [Fe];with_reducible exact H)|(have EP:=(Option.bind_some _ _).symm.trans H;rw [Fe];with_reducible exact EP)|(have EP:=(Option.bind_some _ _).symm.trans H;with_reducible exact EP)|with_reducible exact H|(rw [Fe];exact H)|exact H
       have I8:=Aside0.mk Fe
       clear Fe
       have H':=Aside0.mk H
       clear H
       have Iw : 0 ≤ (BN : Int):=of_decide_eq_true (by first|(with_reducible assumption)|assumption)
       have Iy : BN < (Bu.length : Int):=of_decide_eq_true (by first|(with_reducible assumption)|assumption)
       obtain ⟨Fz,Md,ER,ES,ET,EU⟩:=qE Fb.out BN Iw Iy
       cases Md
       replace ER:=(HB.out.cell (World.block_lt_of_cell? w _ ER)).trans ER
       replace ES:=(HB.out.cell (World.block_lt_of_cell? w _ ES)).trans ES
       replace ET:=(HB.out.cell (World.block_lt_of_cell? w _ ET)).trans ET
       replace EU:=(HB.out.cell (World.block_lt_of_cell? w _ EU)).trans EU
       replace Iw:=eq_true Iw
       replace Iy:=eq_true Iy
       go_wp2_with (first|((with_reducible refine dz (N:=5) rfl ?_);refine dJ ?hg (N:=5) ?hd (cs:=#[.string (⟨#[]⟩ : ByteArray),.string (⟨#[]⟩ : ByteArray),.string (⟨#[]⟩ : ByteArray),.int .u8 0]) (t:=67) ?hr ?_;(case hd=>rfl);(case hg=>rfl);(case hr=>first|(go_simp;done)|(go_simp;rfl));intro Da hg IL hbox hb;have CX:=Aside0.mk (Kd.eG (kr_ Cm.out) hb);have CY:=Aside0.mk (aI (g:=CF) (o:=.cells #[.int .u32 Bw,.slice (some Fz) Bu.length BP] 25 (0,0)) (bk_ Ci.out) hb);have CZ:=Aside0.mk (aI (g:=CS) (o:=.cells #[.int .u32 0,.slice none 0 0] 35 (0,0)) (bk_ CG.out) hb);have C8:=Aside0.mk (aI (g:=CO) (o:=.cells #[.int .u32 Bw,CU] 35 (0,0)) (bk_ Ck.out) hb);have Dl:=Aside0.mk (aN hb_ hb);have Dm:=Aside0.mk (hbox);have Dp:=Aside0.mk ((by rw [hg];exact (aU hb_) : w.heap.size ≤ Da));have Es:=Aside0.mk ((by rw [hg];exact (aU hb_) : w.heap.size ≤ Da));have Et:=Aside0.mk ((by rw [hg];exact Nat.ne_of_lt (bE (g:=CF) (o:=.cells #[.int .u32 Bw,.slice (some Fz) Bu.length BP] 25 (0,0)) (bk_ Ci.out)) : CF ≠ Da));have EI:=Aside0.mk ((by rw [hg];exact Nat.ne_of_gt (bE (g:=CF) (o:=.cells #[.int .u32 Bw,.slice (some Fz) Bu.length BP] 25 (0,0)) (bk_ Ci.out)) : Da ≠ CF));have DJ:=Aside0.mk ((by rw [hg];exact Nat.ne_of_lt (bE (g:=CS) (o:=.cells #[.int .u32 0,.slice none 0 0] 35 (0,0)) (bk_ CG.out)) : CS ≠ Da));have DK:=Aside0.mk ((by rw [hg];exact Nat.ne_of_gt (bE (g:=CS) (o:=.cells #[.int .u32 0,.slice none 0 0] 35 (0,0)) (bk_ CG.out)) : Da ≠ CS));have DL:=Aside0.mk ((by rw [hg];exact Nat.ne_of_lt (bE (g:=CO) (o:=.cells #[.int .u32 Bw,CU] 35 (0,0)) (bk_ Ck.out)) : CO ≠ Da));have DN:=Aside0.mk ((by rw [hg];exact Nat.ne_of_gt (bE (g:=CO) (o:=.cells #[.int .u32 Bw,CU] 35 (0,0)) (bk_ Ck.out)) : Da ≠ CO));clear Cm;clear Ci;clear CG;clear Ck;clear HB;have Cm:=CX;have Ci:=CY;have CG:=CZ;have Ck:=C8;have HB:=Dl;have Dq:=Dm;have MJ:=Dp;have MK:=Es;have Dr:=Et;have FW:=EI;have Dt:=DJ;have FX:=DK;have Du:=DL;have FY:=DN;clear CX CY CZ C8 Dl Dm Dp Es Et EI DJ DK DL DN;clear hb hbox hg;have I9:=FW.out;have Ja:=Dr.out;have Ii:=FX.out;have Ij:=Dt.out;have Jb:=FY.out;have Jc:=Du.out;have JM : IL.cell? ⟨Da,0,none⟩ = some (.string (⟨#[]⟩ : ByteArray)):=(ah Dq.out 0).trans rfl;have JN : IL.cell? ⟨Da,1,none⟩ = some (.string (⟨#[]⟩ : ByteArray)):=(ah Dq.out 1).trans rfl;have JO : IL.cell? ⟨Da,2,none⟩ = some (.string (⟨#[]⟩ : ByteArray)):=(ah Dq.out 2).trans rfl;have JQ : IL.cell? ⟨Da,3,none⟩ = some (.int .u8 0):=(ah Dq.out 3).trans rfl;have JR:=ay Dq.out 0;have JU:=ay Dq.out 1;have JV:=ay Dq.out 2;have JW:=ay Dq.out 3;have Jd:=DX.out;have Je:=Dc.out;have Ik:=DY.out;have Il:=Df.out;have Gn : IL.cell? ⟨CO,0,none⟩ = some (.int .u32 Bw):=(ah Ck.out 0).trans rfl;have Gp : IL.cell? ⟨CO,1,none⟩ = some (CU):=(ah Ck.out 1).trans rfl;have Gq:=ay Ck.out 0;have Gr:=ay Ck.out 1)|((with_reducible refine je (b:=.append) (xs:=#[.tmp 17,.tmp 19]) rfl ?_);at_builtin;refine Kd.jK k85 (w0:=w) w.heap.size rfl (.tmp 17) (.tmp 19) 33 85 (.agg #[(.string ⟨#[]⟩),(.string ⟨#[]⟩),(.string ⟨#[]⟩),(.int .u8 0)]) 56 rfl Tryz.underlying33 zo rfl (by decide) (by omega) CU CV (⟨(dA Bu BN).f0,(dA Bu BN).f1,(dA Bu BN).f2,(dA Bu BN).f3⟩ : S85) [.string ((dA Bu BN).f0),.string ((dA Bu BN).f1),.string ((dA Bu BN).f2),.int .u8 ((dA Bu BN).f3)] (fun _=>True) (fun _=>False) rfl (by first|(go_simp;done)|(go_simp;rfl)) ?aP (fun _ hk=>hk.elim) ?aF ?aO ?aB ?aS ?aL ?_;(case aP=>exact xQ _ _ _ (⟨(dA Bu BN).f0,(dA Bu BN).f1,(dA Bu BN).f2,(dA Bu BN).f3⟩ : S85));(case aB=>exact hb_);(case aF=>exact (fun _ _=>trivial));(case aO=>exact (by (with_reducible repeat (first|apply Kd.ig|apply Kd.iq|apply Kd.iG));exact Kd.fB (Kd.gL (p:=⟨Da,3,none⟩) (Kd.gL (p:=⟨Da,2,none⟩) (Kd.gL (p:=⟨Da,1,none⟩) (Kd.gL (p:=⟨Da,0,none⟩) (Kd.gZ Cm.out Dq.out (by decide)) (fun _ hk=>hk.2) (.string ((dA Bu BN).f0))) (fun _ hk=>hk.2) (.string ((dA Bu BN).f1))) (fun _ hk=>hk.2) (.string ((dA Bu BN).f2))) (fun _ hk=>hk.2) (.int .u8 ((dA Bu BN).f3))) (fun _ hk=>trivial)));(case aS=>exact (aU hb_));(case aL=>have:=I7.out;omega);intro v208 Me ho hb hg hat;rw [← I8.out] at ho;have CX:=Aside0.mk (dU (g:=CF) (o:=.cells #[.int .u32 Bw,.slice (some Fz) Bu.length BP] 25 (0,0)) (by (with_reducible repeat (first|apply aj|apply av|apply ak));refine aH ?_ Dr.out _;(with_reducible repeat (first|apply aj|apply av|apply ak));refine aH ?_ Dr.out _;(with_reducible repeat (first|apply aj|apply av|apply ak));refine aH ?_ Dr.out _;(with_reducible repeat (first|apply aj|apply av|apply ak));refine aH ?_ Dr.out _;(with_reducible repeat (first|apply aj|apply av|apply ak));exact Ci.out) hg (Kd.ji Cm.out Ci.out (by decide)));have CY:=Aside0.mk (dU (g:=CS) (o:=.cells #[.int .u32 0,.slice none 0 0] 35 (0,0)) (by (with_reducible repeat (first|apply aj|apply av|apply ak));refine aH ?_ Dt.out _;(with_reducible repeat (first|apply aj|apply av|apply ak));refine aH ?_ Dt.out _;(with_reducible repeat (first|apply aj|apply av|apply ak));refine aH ?_ Dt.out _;(with_reducible repeat (first|apply aj|apply av|apply ak));refine aH ?_ Dt.out _;(with_reducible repeat (first|apply aj|apply av|apply ak));exact CG.out) hg (Kd.ji Cm.out CG.out (by decide)));have CZ:=Aside0.mk (dU (g:=CO) (o:=.cells #[.int .u32 Bw,CU] 35 (0,0)) (by (with_reducible repeat (first|apply aj|apply av|apply ak));refine aH ?_ Du.out _;(with_reducible repeat (first|apply aj|apply av|apply ak));refine aH ?_ Du.out _;(with_reducible repeat (first|apply aj|apply av|apply ak));refine aH ?_ Du.out _;(with_reducible repeat (first|apply aj|apply av|apply ak));refine aH ?_ Du.out _;(with_reducible repeat (first|apply aj|apply av|apply ak));exact Ck.out) hg (Kd.ji Cm.out Ck.out (by decide)));have C8:=Aside0.mk (dU (g:=Da) (o:=.cells #[.string ((dA Bu BN).f0),.string ((dA Bu BN).f1),.string ((dA Bu BN).f2),.int .u8 ((dA Bu BN).f3)] 67 (0,0)) (by (with_reducible repeat (first|apply aj|apply av|apply ak));refine aT (cs:=#[.string ((dA Bu BN).f0),.string ((dA Bu BN).f1),.string ((dA Bu BN).f2),.int .u8 0]) ?_ 3 _ rfl;(with_reducible repeat (first|apply aj|apply av|apply ak));refine aT (cs:=#[.string ((dA Bu BN).f0),.string ((dA Bu BN).f1),.string (⟨#[]⟩ : ByteArray),.int .u8 0]) ?_ 2 _ rfl;(with_reducible repeat (first|apply aj|apply av|apply ak));refine aT (cs:=#[.string ((dA Bu BN).f0),.string (⟨#[]⟩ : ByteArray),.string (⟨#[]⟩ : ByteArray),.int .u8 0]) ?_ 1 _ rfl;(with_reducible repeat (first|apply aj|apply av|apply ak));refine aT (cs:=#[.string (⟨#[]⟩ : ByteArray),.string (⟨#[]⟩ : ByteArray),.string (⟨#[]⟩ : ByteArray),.int .u8 0]) ?_ 0 _ rfl;(with_reducible repeat (first|apply aj|apply av|apply ak));exact Dq.out) hg (Kd.ji Cm.out Dq.out (by decide)));have Dl:=Aside0.mk (hb);have Dm:=Aside0.mk (ho);clear Ci;clear CG;clear Ck;clear Dq;clear HB;clear Cm;have Ci:=CX;have CG:=CY;have Ck:=CZ;have Dq:=C8;have HB:=Dl;have Im:=Dm;clear CX CY CZ C8 Dl Dm;clear ho hb hg hat;obtain ⟨Jf,Jg,Mf⟩:=Kd.gH Im.out;subst Mf;have FB : Me.cell? ⟨CO,0,none⟩ = some (.int .u32 Bw):=(ah Ck.out 0).trans rfl;have FC : Me.cell? ⟨CO,1,none⟩ = some (CU):=(ah Ck.out 1).trans rfl;have FD:=ay Ck.out 0;have FE:=ay Ck.out 1))
       go_roundg k1
       case measure=>have:=FV.out;omega
       case rel=>exact ⟨(wrap64 (BN + 1)),(Gm),(.slice Jf Gm.length Jg),(by first|rfl|(simp;done)|(simp [*];done)),H',⟨by have:=FV.out;omega⟩,⟨by (with_reducible repeat (first|apply Kd.ig|apply Kd.iq|apply Kd.iG));exact Kd.fB (Kd.gL (p:=⟨CO,1,none⟩) (Kd.gZ Im.out Ck.out (by decide)) (fun _ hk=>hk.2) (.slice Jf Gm.length Jg)) (fun _ hk=>trivial)⟩,⟨by (with_reducible repeat (first|apply aj|apply av|apply ak));refine aH ?_ Dc.out _;(with_reducible repeat (first|apply aj|apply av|apply ak));exact Ci.out⟩,⟨by (with_reducible repeat (first|apply aj|apply av|apply ak));refine aH ?_ Df.out _;(with_reducible repeat (first|apply aj|apply av|apply ak));exact CG.out⟩,⟨by (with_reducible repeat (first|apply aj|apply av|apply ak));refine aT (cs:=#[.int .u32 Bw,CU]) ?_ 1 _ rfl;(with_reducible repeat (first|apply aj|apply av|apply ak));exact Ck.out⟩,⟨hb_⟩⟩
      ·rw [if_neg c14] at H
       exact absurd H (by simp)
     ·rw [if_neg c13] at H
      exact absurd H (by simp)
    ·rw [if_neg c12] at H
     exact absurd H (by simp)
   ·rw [if_neg c11] at H
    have c11b0 : decide (BN < (Bu.length : Int)) = false:=decide_eq_false c11
    clear c11
    simp only [Option.some.injEq,Prod.mk.injEq] at H
    obtain ⟨rfl,rfl⟩:=H
    have ML:=DX.out
    have MN:=Dc.out
    have MO:=DY.out
    have MP:=Df.out
    have Gs : wr.cell? ⟨CO,0,none⟩ = some (.int .u32 Bw):=(ah Ck.out 0).trans rfl
    have Gt : wr.cell? ⟨CO,1,none⟩ = some (CU):=(ah Ck.out 1).trans rfl
    have Gu:=ay Ck.out 0
    have Gv:=ay Ck.out 1
    have Jh:=EK.out
    have Ji:=EJ.out
    have JX : wr.cell? ⟨CS,0,none⟩ = some (.int .u32 0):=(ah CG.out 0).trans rfl
    have JY : wr.cell? ⟨CS,1,none⟩ = some (.slice none 0 0):=(ah CG.out 1).trans rfl
    have JZ:=ay CG.out 0
    have J2:=ay CG.out 1
    obtain ⟨Jj,Jk,Mg⟩:=Kd.gH Cm.out
    subst Mg
    go_wp2
    refine bodyPost_ret (results_cell_row rfl _ _ CS 35 #[.int .u32 Bw,.slice Jj CV.length Jk] (0,0) _ rfl (by (with_reducible repeat (first|apply aj|apply av|apply ak));refine aT (cs:=#[.int .u32 Bw,.slice none 0 0]) ?_ 1 _ rfl;(with_reducible repeat (first|apply aj|apply av|apply ak));refine aT (cs:=#[.int .u32 0,.slice none 0 0]) ?_ 0 _ rfl;(with_reducible repeat (first|apply aj|apply av|apply ak));exact CG.out) Tryz.underlying35 rfl (by kernel_rfl)) rfl ?_
    exact ⟨_,by first|rfl|(simp [bB,bC] <;> rfl)|(simp [*,bB,bC] <;> rfl),by (with_reducible repeat (first|apply Kd.ig|apply Kd.iq|apply Kd.iG));exact Kd.fB (Kd.gL (p:=⟨CS,1,none⟩) (Kd.gL (p:=⟨CS,0,none⟩) (Kd.gZ Cm.out CG.out (by decide)) (fun _ hk=>hk.2) (.int .u32 Bw)) (fun _ hk=>hk.2) (.slice Jj CV.length Jk)) (fun _ hk=>trivial),hb_⟩
mutual
def aY.l0 : Nat → List (S71) → Int → Int → Int → List (S88) → Option (Int × (List (S88)))
 | 0,_,_,_,_,_=>none
 | k + 1,Gf,Jl,FH,DR,Dz=>if FH < Jl then (if 0 ≤ FH then (if FH < (Gf.length : Int) then (aY.l1 k Gf Jl FH ((aJ Gf FH).f5) (((aJ Gf FH).f5).length : Int) 0 DR Dz ((aJ Gf FH).f0) ((aJ Gf FH).f1) ((aJ Gf FH).f2) ((aJ Gf FH).f3) ((aJ Gf FH).f4) ([] : List (S89))) else (none)) else (none)) else (some (DR,Dz))
def aY.l1 : Nat → List (S71) → Int → Int → List (S73) → Int → Int → Int → List (S88) → ByteArray → ByteArray → ByteArray → Int → Int → List (S89) → Option (Int × (List (S88)))
 | 0,_,_,_,_,_,_,_,_,_,_,_,_,_,_=>none
 | k + 1,Gf,Jl,FH,x31,x32,IQ,DR,Dz,FI,FJ,FL,FM,FN,EW=>if IQ < x32 then (if 0 ≤ IQ then (if IQ < (x31.length : Int) then (if EW.length < 4398046511104 then (aY.l1 k Gf Jl FH x31 x32 (wrap64 (IQ + 1)) DR Dz FI FJ FL FM FN (EW ++ [(⟨(fF x31 IQ).f0,(fF x31 IQ).f1⟩ : S89)])) else (none)) else (none)) else (none)) else (if Dz.length < 1759218604441 then (aY.l0 k Gf Jl (wrap64 (FH + 1)) DR (Dz ++ [(⟨FI,FJ,FL,FM,FN,EW⟩ : S88)])) else (none))
end
def aY.f (k : Nat) (Bw : Int) (Bu : List (S71)) : Option (Int × (List (S88))):=aY.l0 k Bu (Bu.length : Int) 0 Bw ([] : List (S88))
theorem aY.eB : ∀ k,(∀ y0 y1 y2 y3 y4,LeO (aY.l0 k y0 y1 y2 y3 y4) (aY.l0 (k + 1) y0 y1 y2 y3 y4)) ∧ (∀ y0 y1 y2 y3 y4 y5 y6 y7 y8 y9 Mh Mi Mj y13,LeO (aY.l1 k y0 y1 y2 y3 y4 y5 y6 y7 y8 y9 Mh Mi Mj y13) (aY.l1 (k + 1) y0 y1 y2 y3 y4 y5 y6 y7 y8 y9 Mh Mi Mj y13))
 | 0=>⟨fun _ _ _ _ _ r h=>by simp [aY.l0] at h,fun _ _ _ _ _ _ _ _ _ _ _ _ _ _ r h=>by simp [aY.l1] at h⟩
 | k + 1=>by
  obtain ⟨Eu,ih1⟩:=aY.eB k
  refine ⟨?_,?_⟩
  ·intro y0 y1 y2 y3 y4
   unfold aY.l0
   repeat' first
   | (with_reducible exact Eu _ _ _ _ _)
   | (with_reducible exact ih1 _ _ _ _ _ _ _ _ _ _ _ _ _ _)
   | (with_reducible exact LeO.refl _)
   | (with_reducible exact LeO.none _)
   | (with_reducible refine LeO.ite ?_ ?_)
   | (with_reducible refine LeO.bind ?_ (fun _=>?_))
   | exact Eu _ _ _ _ _
   | exact ih1 _ _ _ _ _ _ _ _ _ _ _ _ _ _
   | exact LeO.none _
   | refine LeO.ite ?_ ?_
   | refine LeO.bind ?_ (fun _=>?_)
  ·intro y0 y1 y2 y3 y4 y5 y6 y7 y8 y9 Mh Mi Mj y13
   unfold aY.l1
   repeat' first
   | (with_reducible exact Eu _ _ _ _ _)
   | (with_reducible exact ih1 _ _ _ _ _ _ _ _ _ _ _ _ _ _)
   | (with_reducible exact LeO.refl _)
   | (with_reducible exact LeO.none _)
   | (with_reducible refine LeO.ite ?_ ?_)
   | (with_reducible refine LeO.bind ?_ (fun _=>?_))
   | exact Eu _ _ _ _ _
   | exact ih1 _ _ _ _ _ _ _ _ _ _ _ _ _ _
   | exact LeO.none _
   | refine LeO.ite ?_ ?_
   | refine LeO.bind ?_ (fun _=>?_)
theorem aY.mono : ∀ a0 a1 k,LeO (aY.f k a0 a1) (aY.f (k + 1) a0 a1):=by
 intro a0 a1 k
 obtain ⟨Eu,ih1⟩:=aY.eB k
 unfold aY.f
 repeat' first
   | (with_reducible exact Eu _ _ _ _ _)
   | (with_reducible exact ih1 _ _ _ _ _ _ _ _ _ _ _ _ _ _)
   | (with_reducible exact LeO.refl _)
   | (with_reducible exact LeO.none _)
   | (with_reducible refine LeO.ite ?_ ?_)
   | (with_reducible refine LeO.bind ?_ (fun _=>?_))
   | exact Eu _ _ _ _ _
   | exact ih1 _ _ _ _ _ _ _ _ _ _ _ _ _ _
   | exact LeO.none _
   | refine LeO.ite ?_ ?_
   | refine LeO.bind ?_ (fun _=>?_)
set_option maxHeartbeats 8000000 in
set_option maxRecDepth 100000 in
theorem aY.calls (k : Nat) (Bw : Int) (Cr : Option Addr) (BP : Nat) (Bu : List (S71)) (r1 : Int) (r2 : List (S88)) (w : World) (Ep : Kd.C k71 w Cr Bu.length Bu) (Er : Bu.length ≤ BP) (h : aY.f k Bw Bu = some (r1,r2)) :
  Calls Tryz.prog 10 #[.agg #[.int .u64 Bw,.slice Cr Bu.length BP]] w fun e w'=>∃ Ig : Value,e = .returned (.agg #[.int .u64 r1,Ig]) ∧ Kd.S k88 88 w' w.heap.size (fun _=>True) Ig r2 ∧ Below w.heap.size w w':=by
 have OA:=Tryz.underlying29
 have Mk:=Tryz.underlying39
 have OB:=Tryz.underlying71
 have Ml:=Tryz.underlying88
 have OC:=Tryz.underlying73
 have Fb:=Aside0.mk Ep
 have Ih:=Aside0.mk Er
 clear Ep Er
 have HB:=Aside0.mk (Below.refl w.heap.size w)
 have H : (aY.l0 k Bu (Bu.length : Int) 0 Bw ([] : List (S88))) = some (r1,r2):=h
 clear h
 have H':=Aside0.mk H
 clear H
 go_enter Tryz.func10,Tryz.ntmps10
 go_wp2_with (first|((with_reducible refine dz (N:=1) rfl ?_);refine dJ ?hg (N:=1) ?hd (cs:=#[.int .u64 Bw,.slice Cr Bu.length BP]) (t:=29) ?hr ?_;(case hd=>rfl);(case hg=>rfl);(case hr=>first|(go_simp;done)|(go_simp;rfl));intro Ca hg w2 hbox hb;have CX:=Aside0.mk (aN hb_ hb);have CY:=Aside0.mk (hbox);have CZ:=Aside0.mk ((by rw [hg];exact (aU hb_) : w.heap.size ≤ Ca));have C8:=Aside0.mk ((by rw [hg];exact (aU hb_) : w.heap.size ≤ Ca));clear HB;have HB:=CX;have BH:=CY;have MQ:=CZ;have MR:=C8;clear CX CY CZ C8;clear hb hbox hg)|((with_reducible refine dz (N:=2) rfl ?_);refine dJ ?hg (N:=2) ?hd (cs:=#[.int .u64 0,.slice none 0 0]) (t:=39) ?hr ?_;(case hd=>rfl);(case hg=>rfl);(case hr=>first|(go_simp;done)|(go_simp;rfl));intro Ce hg w3 hbox hb;have CX:=Aside0.mk (aI (g:=Ca) (o:=.cells #[.int .u64 Bw,.slice Cr Bu.length BP] 29 (0,0)) (bk_ BH.out) hb);have CY:=Aside0.mk (aN hb_ hb);have CZ:=Aside0.mk (hbox);have C8:=Aside0.mk ((by rw [hg];exact (aU hb_) : w.heap.size ≤ Ce));have Dl:=Aside0.mk ((by rw [hg];exact (aU hb_) : w.heap.size ≤ Ce));have Dm:=Aside0.mk ((by rw [hg];exact Nat.ne_of_lt (bE (g:=Ca) (o:=.cells #[.int .u64 Bw,.slice Cr Bu.length BP] 29 (0,0)) (bk_ BH.out)) : Ca ≠ Ce));have Dp:=Aside0.mk ((by rw [hg];exact Nat.ne_of_gt (bE (g:=Ca) (o:=.cells #[.int .u64 Bw,.slice Cr Bu.length BP] 29 (0,0)) (bk_ BH.out)) : Ce ≠ Ca));clear BH;clear HB;have BH:=CX;have HB:=CY;have BO:=CZ;have MS:=C8;have MU:=Dl;have EL:=Dm;have EM:=Dp;clear CX CY CZ C8 Dl Dm Dp;clear hb hbox hg;have IX:=EL.out;have IY:=EM.out;have DT : w3.cell? ⟨Ca,0,none⟩ = some (.int .u64 Bw):=(ah BH.out 0).trans rfl;have DU : w3.cell? ⟨Ca,1,none⟩ = some (.slice Cr Bu.length BP):=(ah BH.out 1).trans rfl;have DV:=ay BH.out 0;have DW:=ay BH.out 1)|((with_reducible refine dz (N:=3) rfl ?_);refine dJ ?hg (N:=3) ?hd (cs:=#[.int .u64 0,.slice none 0 0]) (t:=39) ?hr ?_;(case hd=>rfl);(case hg=>rfl);(case hr=>first|(go_simp;done)|(go_simp;rfl));intro Cc hg w6 hbox hb;have CX:=Aside0.mk (aI (g:=Ca) (o:=.cells #[.int .u64 Bw,.slice Cr Bu.length BP] 29 (0,0)) (bk_ BH.out) hb);have CY:=Aside0.mk (aI (g:=Ce) (o:=.cells #[.int .u64 0,.slice none 0 0] 39 (0,0)) (bk_ BO.out) hb);have CZ:=Aside0.mk (aN hb_ hb);have C8:=Aside0.mk (hbox);have Dl:=Aside0.mk ((by rw [hg];exact (aU hb_) : w.heap.size ≤ Cc));have Dm:=Aside0.mk ((by rw [hg];exact (aU hb_) : w.heap.size ≤ Cc));have Dp:=Aside0.mk ((by rw [hg];exact Nat.ne_of_lt (bE (g:=Ca) (o:=.cells #[.int .u64 Bw,.slice Cr Bu.length BP] 29 (0,0)) (bk_ BH.out)) : Ca ≠ Cc));have Es:=Aside0.mk ((by rw [hg];exact Nat.ne_of_gt (bE (g:=Ca) (o:=.cells #[.int .u64 Bw,.slice Cr Bu.length BP] 29 (0,0)) (bk_ BH.out)) : Cc ≠ Ca));have Et:=Aside0.mk ((by rw [hg];exact Nat.ne_of_lt (bE (g:=Ce) (o:=.cells #[.int .u64 0,.slice none 0 0] 39 (0,0)) (bk_ BO.out)) : Ce ≠ Cc));have EI:=Aside0.mk ((by rw [hg];exact Nat.ne_of_gt (bE (g:=Ce) (o:=.cells #[.int .u64 0,.slice none 0 0] 39 (0,0)) (bk_ BO.out)) : Cc ≠ Ce));clear BH;clear BO;clear HB;have BH:=CX;have BO:=CY;have HB:=CZ;have BI:=C8;have MV:=Dl;have MW:=Dm;have Dh:=Dp;have D8:=Es;have Di:=Et;have D9:=EI;clear CX CY CZ C8 Dl Dm Dp Es Et EI;clear hb hbox hg;have IZ:=D8.out;have I4:=Dh.out;have I5:=D9.out;have I6:=Di.out;have DZ : w6.cell? ⟨Cc,0,none⟩ = some (.int .u64 0):=(ah BI.out 0).trans rfl;have D5 : w6.cell? ⟨Cc,1,none⟩ = some (.slice none 0 0):=(ah BI.out 1).trans rfl;have D6:=ay BI.out 0;have D7:=ay BI.out 1;have Ew : w6.cell? ⟨Ca,0,none⟩ = some (.int .u64 Bw):=(ah BH.out 0).trans rfl;have Ey : w6.cell? ⟨Ca,1,none⟩ = some (.slice Cr Bu.length BP):=(ah BH.out 1).trans rfl;have Ez:=ay BH.out 0;have EA:=ay BH.out 1))
 go_loopg [15] k (fun kq v15 w'=>∃ (Bv : Int) (Cn : List (S88)) (BQ : Value),v15 = .int .i64 Bv ∧ Aside0 (aY.l0 kq Bu (Bu.length : Int) Bv Bw Cn = some (r1,r2)) ∧ Aside0 (kq ≤ k) ∧ Aside0 (Kd.S k88 88 w' w.heap.size (fun _=>True) BQ Cn) ∧ Aside0 (w'.heap[Ca]? = some (.cells #[.int .u64 Bw,(.slice Cr Bu.length BP)] 29 (0,0))) ∧ Aside0 (w'.heap[Ce]? = some (.cells #[.int .u64 0,(.slice none 0 0)] 39 (0,0))) ∧ Aside0 (w'.heap[Cc]? = some (.cells #[.int .u64 Bw,BQ] 39 (0,0))) ∧ Aside0 (Below w.heap.size w w'))
 case atStart=>exact ⟨(0),(([] : List (S88))),(.slice none 0 0),(by first|rfl|(simp;done)|(simp [*];done)),H',⟨Nat.le_refl _⟩,⟨by first|exact Kd.pK _ _ _ _ _|exact Kd.kQ _ _ _ _ _|exact Kd.pU _ _ _ _ _|exact Kd.pG _ _ _ _ _|exact Kd.jy _ _ _ _ _⟩,⟨by (with_reducible repeat (first|apply aj|apply av|apply ak));refine aH ?_ Dh.out _;(with_reducible repeat (first|apply aj|apply av|apply ak));refine aH ?_ Dh.out _;(with_reducible repeat (first|apply aj|apply av|apply ak));exact BH.out⟩,⟨by (with_reducible repeat (first|apply aj|apply av|apply ak));refine aH ?_ Di.out _;(with_reducible repeat (first|apply aj|apply av|apply ak));refine aH ?_ Di.out _;(with_reducible repeat (first|apply aj|apply av|apply ak));exact BO.out⟩,⟨by (with_reducible repeat (first|apply aj|apply av|apply ak));refine aT (cs:=#[.int .u64 Bw,.slice none 0 0]) ?_ 1 _ rfl;(with_reducible repeat (first|apply aj|apply av|apply ak));refine aT (cs:=#[.int .u64 0,.slice none 0 0]) ?_ 0 _ rfl;(with_reducible repeat (first|apply aj|apply av|apply ak));exact BI.out⟩,⟨hb_⟩⟩
 case round =>
  clear H'
  try clear c1
  try clear p2
  try clear c4
  try clear c7
  try clear c8
  try clear c10
  try clear Ew
  try clear Ey
  try clear DT
  try clear DU
  try clear DZ
  try clear D5
  try clear Ez
  try clear EA
  try clear DV
  try clear DW
  try clear D6
  try clear D7
  obtain ⟨Bv,Cn,BQ,rfl,HA,FV,BD,BH,BO,BI,HB⟩:=hrel
  cases gk with
  | zero=>exact absurd HA.out (by simp [aY.l0])
  | succ k1 =>
   have H:=HA.out
   clear HA
   simp only [aY.l0] at H
   by_cases c11 : Bv < (Bu.length : Int)
   ·rw [if_pos c11] at H
    have c11b0 : decide (Bv < (Bu.length : Int)) = true:=decide_eq_true c11
    clear c11
    by_cases c12 : 0 ≤ Bv
    ·rw [if_pos c12] at H
     have c12b0 : decide (0 ≤ Bv) = true:=decide_eq_true c12
     clear c12
     by_cases c13 : Bv < (Bu.length : Int)
     ·rw [if_pos c13] at H
      have c13b0 : decide (Bv < (Bu.length : Int)) = true:=decide_eq_true c13
      clear c13
      have H':=Aside0.mk H
      clear H
      have Gw : 0 ≤ (Bv : Int):=of_decide_eq_true (by first|(with_reducible assumption)|assumption)
      have Gx : Bv < (Bu.length : Int):=of_decide_eq_true (by first|(with_reducible assumption)|assumption)
      obtain ⟨Dy,DI,Dn,e213,EB,EC,ED,EF,EG,EH,FP,FQ⟩:=rZ Fb.out Bv Gw Gx
      cases e213
      replace EB:=(HB.out.cell (World.block_lt_of_cell? w _ EB)).trans EB
      replace EC:=(HB.out.cell (World.block_lt_of_cell? w _ EC)).trans EC
      replace ED:=(HB.out.cell (World.block_lt_of_cell? w _ ED)).trans ED
      replace EF:=(HB.out.cell (World.block_lt_of_cell? w _ EF)).trans EF
      replace EG:=(HB.out.cell (World.block_lt_of_cell? w _ EG)).trans EG
      replace EH:=(HB.out.cell (World.block_lt_of_cell? w _ EH)).trans EH
      have Gy:=Aside0.mk FQ
      have J3:=Aside0.mk FP
      clear FQ FP
      replace Gw:=eq_true Gw
      replace Gx:=eq_true Gx
      go_wp2_with (first|((with_reducible refine dz (N:=5) rfl ?_);refine dJ ?hg (N:=5) ?hd (cs:=#[.string (⟨#[]⟩ : ByteArray),.string (⟨#[]⟩ : ByteArray),.string (⟨#[]⟩ : ByteArray),.int .u8 0,.int .u16 0,.slice none 0 0]) (t:=71) ?hr ?_;(case hd=>rfl);(case hg=>rfl);(case hr=>first|(go_simp;done)|(go_simp;rfl));intro BR hg IU hbox hb;have CX:=Aside0.mk (Kd.dK (by (with_reducible repeat (first|apply Kd.bP|apply Kd.bQ|apply Kd.cB));exact BD.out) hb);have CY:=Aside0.mk (aI (g:=Ca) (o:=.cells #[.int .u64 Bw,.slice (some Dy) Bu.length BP] 29 (0,0)) (bk_ BH.out) hb);have CZ:=Aside0.mk (aI (g:=Ce) (o:=.cells #[.int .u64 0,.slice none 0 0] 39 (0,0)) (bk_ BO.out) hb);have C8:=Aside0.mk (aI (g:=Cc) (o:=.cells #[.int .u64 Bw,BQ] 39 (0,0)) (bk_ BI.out) hb);have Dl:=Aside0.mk (aN hb_ hb);have Dm:=Aside0.mk (hbox);have Dp:=Aside0.mk ((by rw [hg];exact (aU hb_) : w.heap.size ≤ BR));have Es:=Aside0.mk ((by rw [hg];exact (aU hb_) : w.heap.size ≤ BR));have Et:=Aside0.mk ((by rw [hg];exact Nat.ne_of_lt (bE (g:=Ca) (o:=.cells #[.int .u64 Bw,.slice (some Dy) Bu.length BP] 29 (0,0)) (bk_ BH.out)) : Ca ≠ BR));have EI:=Aside0.mk ((by rw [hg];exact Nat.ne_of_gt (bE (g:=Ca) (o:=.cells #[.int .u64 Bw,.slice (some Dy) Bu.length BP] 29 (0,0)) (bk_ BH.out)) : BR ≠ Ca));have DJ:=Aside0.mk ((by rw [hg];exact Nat.ne_of_lt (bE (g:=Ce) (o:=.cells #[.int .u64 0,.slice none 0 0] 39 (0,0)) (bk_ BO.out)) : Ce ≠ BR));have DK:=Aside0.mk ((by rw [hg];exact Nat.ne_of_gt (bE (g:=Ce) (o:=.cells #[.int .u64 0,.slice none 0 0] 39 (0,0)) (bk_ BO.out)) : BR ≠ Ce));have DL:=Aside0.mk ((by rw [hg];exact Nat.ne_of_lt (bE (g:=Cc) (o:=.cells #[.int .u64 Bw,BQ] 39 (0,0)) (bk_ BI.out)) : Cc ≠ BR));have DN:=Aside0.mk ((by rw [hg];exact Nat.ne_of_gt (bE (g:=Cc) (o:=.cells #[.int .u64 Bw,BQ] 39 (0,0)) (bk_ BI.out)) : BR ≠ Cc));clear BD;clear BH;clear BO;clear BI;clear HB;have BD:=CX;have BH:=CY;have BO:=CZ;have BI:=C8;have HB:=Dl;have BJ:=Dm;have MX:=Dp;have MZ:=Es;have BK:=Et;have FZ:=EI;have BL:=DJ;have F3:=DK;have BG:=DL;have EN:=DN;clear CX CY CZ C8 Dl Dm Dp Es Et EI DJ DK DL DN;clear hb hbox hg;have M0:=FZ.out;have M4:=BK.out;have I9:=F3.out;have Ja:=BL.out;have Ii:=EN.out;have Ij:=BG.out;have Gz : IU.cell? ⟨BR,0,none⟩ = some (.string (⟨#[]⟩ : ByteArray)):=(ah BJ.out 0).trans rfl;have GA : IU.cell? ⟨BR,1,none⟩ = some (.string (⟨#[]⟩ : ByteArray)):=(ah BJ.out 1).trans rfl;have GD : IU.cell? ⟨BR,2,none⟩ = some (.string (⟨#[]⟩ : ByteArray)):=(ah BJ.out 2).trans rfl;have GI : IU.cell? ⟨BR,3,none⟩ = some (.int .u8 0):=(ah BJ.out 3).trans rfl;have GJ : IU.cell? ⟨BR,4,none⟩ = some (.int .u16 0):=(ah BJ.out 4).trans rfl;have GK : IU.cell? ⟨BR,5,none⟩ = some (.slice none 0 0):=(ah BJ.out 5).trans rfl;have GL:=ay BJ.out 0;have GN:=ay BJ.out 1;have GQ:=ay BJ.out 2;have GR:=ay BJ.out 3;have GU:=ay BJ.out 4;have GV:=ay BJ.out 5)|((with_reducible refine dz (N:=6) rfl ?_);refine dJ ?hg (N:=6) ?hd (cs:=#[.string (⟨#[]⟩ : ByteArray),.string (⟨#[]⟩ : ByteArray),.string (⟨#[]⟩ : ByteArray),.int .u8 0,.int .u16 0,.slice none 0 0]) (t:=88) ?hr ?_;(case hd=>rfl);(case hg=>rfl);(case hr=>first|(go_simp;done)|(go_simp;rfl));intro BF hg Gg hbox hb;have CX:=Aside0.mk (Kd.dK (Kd.vG (by (with_reducible repeat (first|apply Kd.bP|apply Kd.bQ|apply Kd.cB));exact (Kd.iB (Kd.fJ (p:=⟨BR,5,none⟩) (Kd.fJ (p:=⟨BR,4,none⟩) (Kd.fJ (p:=⟨BR,3,none⟩) (Kd.fJ (p:=⟨BR,2,none⟩) (Kd.fJ (p:=⟨BR,1,none⟩) (Kd.fJ (p:=⟨BR,0,none⟩) (Kd.iW BD.out BJ.out (by decide)) (fun _ hk=>hk.2) (.string ((aJ Bu Bv).f0))) (fun _ hk=>hk.2) (.string ((aJ Bu Bv).f1))) (fun _ hk=>hk.2) (.string ((aJ Bu Bv).f2))) (fun _ hk=>hk.2) (.int .u8 ((aJ Bu Bv).f3))) (fun _ hk=>hk.2) (.int .u16 ((aJ Bu Bv).f4))) (fun _ hk=>hk.2) (.slice DI ((aJ Bu Bv).f5).length Dn)) (fun _ h_=>h_.1))) BF (Nat.le_of_eq hg.symm)) hb);have CY:=Aside0.mk (aI (g:=Ca) (o:=.cells #[.int .u64 Bw,.slice (some Dy) Bu.length BP] 29 (0,0)) (by (with_reducible repeat (first|apply aj|apply av|apply ak));refine aH ?_ BK.out _;(with_reducible repeat (first|apply aj|apply av|apply ak));refine aH ?_ BK.out _;(with_reducible repeat (first|apply aj|apply av|apply ak));refine aH ?_ BK.out _;(with_reducible repeat (first|apply aj|apply av|apply ak));refine aH ?_ BK.out _;(with_reducible repeat (first|apply aj|apply av|apply ak));refine aH ?_ BK.out _;(with_reducible repeat (first|apply aj|apply av|apply ak));refine aH ?_ BK.out _;(with_reducible repeat (first|apply aj|apply av|apply ak));exact BH.out) hb);have CZ:=Aside0.mk (aI (g:=Ce) (o:=.cells #[.int .u64 0,.slice none 0 0] 39 (0,0)) (by (with_reducible repeat (first|apply aj|apply av|apply ak));refine aH ?_ BL.out _;(with_reducible repeat (first|apply aj|apply av|apply ak));refine aH ?_ BL.out _;(with_reducible repeat (first|apply aj|apply av|apply ak));refine aH ?_ BL.out _;(with_reducible repeat (first|apply aj|apply av|apply ak));refine aH ?_ BL.out _;(with_reducible repeat (first|apply aj|apply av|apply ak));refine aH ?_ BL.out _;(with_reducible repeat (first|apply aj|apply av|apply ak));refine aH ?_ BL.out _;(with_reducible repeat (first|apply aj|apply av|apply ak));exact BO.out) hb);have C8:=Aside0.mk (aI (g:=Cc) (o:=.cells #[.int .u64 Bw,BQ] 39 (0,0)) (by (with_reducible repeat (first|apply aj|apply av|apply ak));refine aH ?_ BG.out _;(with_reducible repeat (first|apply aj|apply av|apply ak));refine aH ?_ BG.out _;(with_reducible repeat (first|apply aj|apply av|apply ak));refine aH ?_ BG.out _;(with_reducible repeat (first|apply aj|apply av|apply ak));refine aH ?_ BG.out _;(with_reducible repeat (first|apply aj|apply av|apply ak));refine aH ?_ BG.out _;(with_reducible repeat (first|apply aj|apply av|apply ak));refine aH ?_ BG.out _;(with_reducible repeat (first|apply aj|apply av|apply ak));exact BI.out) hb);have Dl:=Aside0.mk (aI (g:=BR) (o:=.cells #[.string ((aJ Bu Bv).f0),.string ((aJ Bu Bv).f1),.string ((aJ Bu Bv).f2),.int .u8 ((aJ Bu Bv).f3),.int .u16 ((aJ Bu Bv).f4),.slice DI ((aJ Bu Bv).f5).length Dn] 71 (0,0)) (by (with_reducible repeat (first|apply aj|apply av|apply ak));refine aT (cs:=#[.string ((aJ Bu Bv).f0),.string ((aJ Bu Bv).f1),.string ((aJ Bu Bv).f2),.int .u8 ((aJ Bu Bv).f3),.int .u16 ((aJ Bu Bv).f4),.slice none 0 0]) ?_ 5 _ rfl;(with_reducible repeat (first|apply aj|apply av|apply ak));refine aT (cs:=#[.string ((aJ Bu Bv).f0),.string ((aJ Bu Bv).f1),.string ((aJ Bu Bv).f2),.int .u8 ((aJ Bu Bv).f3),.int .u16 0,.slice none 0 0]) ?_ 4 _ rfl;(with_reducible repeat (first|apply aj|apply av|apply ak));refine aT (cs:=#[.string ((aJ Bu Bv).f0),.string ((aJ Bu Bv).f1),.string ((aJ Bu Bv).f2),.int .u8 0,.int .u16 0,.slice none 0 0]) ?_ 3 _ rfl;(with_reducible repeat (first|apply aj|apply av|apply ak));refine aT (cs:=#[.string ((aJ Bu Bv).f0),.string ((aJ Bu Bv).f1),.string (⟨#[]⟩ : ByteArray),.int .u8 0,.int .u16 0,.slice none 0 0]) ?_ 2 _ rfl;(with_reducible repeat (first|apply aj|apply av|apply ak));refine aT (cs:=#[.string ((aJ Bu Bv).f0),.string (⟨#[]⟩ : ByteArray),.string (⟨#[]⟩ : ByteArray),.int .u8 0,.int .u16 0,.slice none 0 0]) ?_ 1 _ rfl;(with_reducible repeat (first|apply aj|apply av|apply ak));refine aT (cs:=#[.string (⟨#[]⟩ : ByteArray),.string (⟨#[]⟩ : ByteArray),.string (⟨#[]⟩ : ByteArray),.int .u8 0,.int .u16 0,.slice none 0 0]) ?_ 0 _ rfl;(with_reducible repeat (first|apply aj|apply av|apply ak));exact BJ.out) hb);have Dm:=Aside0.mk (aN hb_ hb);have Dp:=Aside0.mk (hbox);have Es:=Aside0.mk ((by rw [hg];exact (aU hb_) : w.heap.size ≤ BF));have Et:=Aside0.mk ((by rw [hg];exact (aU hb_) : w.heap.size ≤ BF));have EI:=Aside0.mk ((by rw [hg];exact Nat.ne_of_lt (bE (g:=Ca) (o:=.cells #[.int .u64 Bw,.slice (some Dy) Bu.length BP] 29 (0,0)) (by (with_reducible repeat (first|apply aj|apply av|apply ak));refine aH ?_ BK.out _;(with_reducible repeat (first|apply aj|apply av|apply ak));refine aH ?_ BK.out _;(with_reducible repeat (first|apply aj|apply av|apply ak));refine aH ?_ BK.out _;(with_reducible repeat (first|apply aj|apply av|apply ak));refine aH ?_ BK.out _;(with_reducible repeat (first|apply aj|apply av|apply ak));refine aH ?_ BK.out _;(with_reducible repeat (first|apply aj|apply av|apply ak));refine aH ?_ BK.out _;(with_reducible repeat (first|apply aj|apply av|apply ak));exact BH.out)) : Ca ≠ BF));have DJ:=Aside0.mk ((by rw [hg];exact Nat.ne_of_gt (bE (g:=Ca) (o:=.cells #[.int .u64 Bw,.slice (some Dy) Bu.length BP] 29 (0,0)) (by (with_reducible repeat (first|apply aj|apply av|apply ak));refine aH ?_ BK.out _;(with_reducible repeat (first|apply aj|apply av|apply ak));refine aH ?_ BK.out _;(with_reducible repeat (first|apply aj|apply av|apply ak));refine aH ?_ BK.out _;(with_reducible repeat (first|apply aj|apply av|apply ak));refine aH ?_ BK.out _;(with_reducible repeat (first|apply aj|apply av|apply ak));refine aH ?_ BK.out _;(with_reducible repeat (first|apply aj|apply av|apply ak));refine aH ?_ BK.out _;(with_reducible repeat (first|apply aj|apply av|apply ak));exact BH.out)) : BF ≠ Ca));have DK:=Aside0.mk ((by rw [hg];exact Nat.ne_of_lt (bE (g:=Ce) (o:=.cells #[.int .u64 0,.slice none 0 0] 39 (0,0)) (by (with_reducible repeat (first|apply aj|apply av|apply ak));refine aH ?_ BL.out _;(with_reducible repeat (first|apply aj|apply av|apply ak));refine aH ?_ BL.out _;(with_reducible repeat (first|apply aj|apply av|apply ak));refine aH ?_ BL.out _;(with_reducible repeat (first|apply aj|apply av|apply ak));refine aH ?_ BL.out _;(with_reducible repeat (first|apply aj|apply av|apply ak));refine aH ?_ BL.out _;(with_reducible repeat (first|apply aj|apply av|apply ak));refine aH ?_ BL.out _;(with_reducible repeat (first|apply aj|apply av|apply ak));exact BO.out)) : Ce ≠ BF));have DL:=Aside0.mk ((by rw [hg];exact Nat.ne_of_gt (bE (g:=Ce) (o:=.cells #[.int .u64 0,.slice none 0 0] 39 (0,0)) (by (with_reducible repeat (first|apply aj|apply av|apply ak));refine aH ?_ BL.out _;(with_reducible repeat (first|apply aj|apply av|apply ak));refine aH ?_ BL.out _;(with_reducible repeat (first|apply aj|apply av|apply ak));refine aH ?_ BL.out _;(with_reducible repeat (first|apply aj|apply av|apply ak));refine aH ?_ BL.out _;(with_reducible repeat (first|apply aj|apply av|apply ak));refine aH ?_ BL.out _;(with_reducible repeat (first|apply aj|apply av|apply ak));refine aH ?_ BL.out _;(with_reducible repeat (first|apply aj|apply av|apply ak));exact BO.out)) : BF ≠ Ce));have DN:=Aside0.mk ((by rw [hg];exact Nat.ne_of_lt (bE (g:=Cc) (o:=.cells #[.int .u64 Bw,BQ] 39 (0,0)) (by (with_reducible repeat (first|apply aj|apply av|apply ak));refine aH ?_ BG.out _;(with_reducible repeat (first|apply aj|apply av|apply ak));refine aH ?_ BG.out _;(with_reducible repeat (first|apply aj|apply av|apply ak));refine aH ?_ BG.out _;(with_reducible repeat (first|apply aj|apply av|apply ak));refine aH ?_ BG.out _;(with_reducible repeat (first|apply aj|apply av|apply ak));refine aH ?_ BG.out _;(with_reducible repeat (first|apply aj|apply av|apply ak));refine aH ?_ BG.out _;(with_reducible repeat (first|apply aj|apply av|apply ak));exact BI.out)) : Cc ≠ BF));have Gh:=Aside0.mk ((by rw [hg];exact Nat.ne_of_gt (bE (g:=Cc) (o:=.cells #[.int .u64 Bw,BQ] 39 (0,0)) (by (with_reducible repeat (first|apply aj|apply av|apply ak));refine aH ?_ BG.out _;(with_reducible repeat (first|apply aj|apply av|apply ak));refine aH ?_ BG.out _;(with_reducible repeat (first|apply aj|apply av|apply ak));refine aH ?_ BG.out _;(with_reducible repeat (first|apply aj|apply av|apply ak));refine aH ?_ BG.out _;(with_reducible repeat (first|apply aj|apply av|apply ak));refine aH ?_ BG.out _;(with_reducible repeat (first|apply aj|apply av|apply ak));refine aH ?_ BG.out _;(with_reducible repeat (first|apply aj|apply av|apply ak));exact BI.out)) : BF ≠ Cc));have Gi:=Aside0.mk ((by rw [hg];exact Nat.ne_of_lt (bE (g:=BR) (o:=.cells #[.string ((aJ Bu Bv).f0),.string ((aJ Bu Bv).f1),.string ((aJ Bu Bv).f2),.int .u8 ((aJ Bu Bv).f3),.int .u16 ((aJ Bu Bv).f4),.slice DI ((aJ Bu Bv).f5).length Dn] 71 (0,0)) (by (with_reducible repeat (first|apply aj|apply av|apply ak));refine aT (cs:=#[.string ((aJ Bu Bv).f0),.string ((aJ Bu Bv).f1),.string ((aJ Bu Bv).f2),.int .u8 ((aJ Bu Bv).f3),.int .u16 ((aJ Bu Bv).f4),.slice none 0 0]) ?_ 5 _ rfl;(with_reducible repeat (first|apply aj|apply av|apply ak));refine aT (cs:=#[.string ((aJ Bu Bv).f0),.string ((aJ Bu Bv).f1),.string ((aJ Bu Bv).f2),.int .u8 ((aJ Bu Bv).f3),.int .u16 0,.slice none 0 0]) ?_ 4 _ rfl;(with_reducible repeat (first|apply aj|apply av|apply ak));refine aT (cs:=#[.string ((aJ Bu Bv).f0),.string ((aJ Bu Bv).f1),.string ((aJ Bu Bv).f2),.int .u8 0,.int .u16 0,.slice none 0 0]) ?_ 3 _ rfl;(with_reducible repeat (first|apply aj|apply av|apply ak));refine aT (cs:=#[.string ((aJ Bu Bv).f0),.string ((aJ Bu Bv).f1),.string (⟨#[]⟩ : ByteArray),.int .u8 0,.int .u16 0,.slice none 0 0]) ?_ 2 _ rfl;(with_reducible repeat (first|apply aj|apply av|apply ak));refine aT (cs:=#[.string ((aJ Bu Bv).f0),.string (⟨#[]⟩ : ByteArray),.string (⟨#[]⟩ : ByteArray),.int .u8 0,.int .u16 0,.slice none 0 0]) ?_ 1 _ rfl;(with_reducible repeat (first|apply aj|apply av|apply ak));refine aT (cs:=#[.string (⟨#[]⟩ : ByteArray),.string (⟨#[]⟩ : ByteArray),.string (⟨#[]⟩ : ByteArray),.int .u8 0,.int .u16 0,.slice none 0 0]) ?_ 0 _ rfl;(with_reducible repeat (first|apply aj|apply av|apply ak));exact BJ.out)) : BR ≠ BF));have Gj:=Aside0.mk ((by rw [hg];exact Nat.ne_of_gt (bE (g:=BR) (o:=.cells #[.string ((aJ Bu Bv).f0),.string ((aJ Bu Bv).f1),.string ((aJ Bu Bv).f2),.int .u8 ((aJ Bu Bv).f3),.int .u16 ((aJ Bu Bv).f4),.slice DI ((aJ Bu Bv).f5).length Dn] 71 (0,0)) (by (with_reducible repeat (first|apply aj|apply av|apply ak));refine aT (cs:=#[.string ((aJ Bu Bv).f0),.string ((aJ Bu Bv).f1),.string ((aJ Bu Bv).f2),.int .u8 ((aJ Bu Bv).f3),.int .u16 ((aJ Bu Bv).f4),.slice none 0 0]) ?_ 5 _ rfl;(with_reducible repeat (first|apply aj|apply av|apply ak));refine aT (cs:=#[.string ((aJ Bu Bv).f0),.string ((aJ Bu Bv).f1),.string ((aJ Bu Bv).f2),.int .u8 ((aJ Bu Bv).f3),.int .u16 0,.slice none 0 0]) ?_ 4 _ rfl;(with_reducible repeat (first|apply aj|apply av|apply ak));refine aT (cs:=#[.string ((aJ Bu Bv).f0),.string ((aJ Bu Bv).f1),.string ((aJ Bu Bv).f2),.int .u8 0,.int .u16 0,.slice none 0 0]) ?_ 3 _ rfl;(with_reducible repeat (first|apply aj|apply av|apply ak));refine aT (cs:=#[.string ((aJ Bu Bv).f0),.string ((aJ Bu Bv).f1),.string (⟨#[]⟩ : ByteArray),.int .u8 0,.int .u16 0,.slice none 0 0]) ?_ 2 _ rfl;(with_reducible repeat (first|apply aj|apply av|apply ak));refine aT (cs:=#[.string ((aJ Bu Bv).f0),.string (⟨#[]⟩ : ByteArray),.string (⟨#[]⟩ : ByteArray),.int .u8 0,.int .u16 0,.slice none 0 0]) ?_ 1 _ rfl;(with_reducible repeat (first|apply aj|apply av|apply ak));refine aT (cs:=#[.string (⟨#[]⟩ : ByteArray),.string (⟨#[]⟩ : ByteArray),.string (⟨#[]⟩ : ByteArray),.int .u8 0,.int .u16 0,.slice none 0 0]) ?_ 0 _ rfl;(with_reducible repeat (first|apply aj|apply av|apply ak));exact BJ.out)) : BF ≠ BR));clear BD;clear BH;clear BO;clear BI;clear BJ;clear HB;have BD:=CX;have BH:=CY;have BO:=CZ;have BI:=C8;have BJ:=Dl;have HB:=Dm;have Bz:=Dp;have M6:=Es;have M7:=Et;have Cu:=EI;have Ea:=DJ;have Cv:=DK;have Eb:=DL;have Cw:=DN;have Ec:=Gh;have Cz:=Gi;have Ed:=Gj;clear CX CY CZ C8 Dl Dm Dp Es Et EI DJ DK DL DN Gh Gi Gj;clear hb hbox hg;have Jd:=Ea.out;have Je:=Cu.out;have Ik:=Eb.out;have Il:=Cv.out;have M8:=Ec.out;have M9:=Cw.out;have Na:=Ed.out;have Nb:=Cz.out;have GX : Gg.cell? ⟨BF,0,none⟩ = some (.string (⟨#[]⟩ : ByteArray)):=(ah Bz.out 0).trans rfl;have GY : Gg.cell? ⟨BF,1,none⟩ = some (.string (⟨#[]⟩ : ByteArray)):=(ah Bz.out 1).trans rfl;have GZ : Gg.cell? ⟨BF,2,none⟩ = some (.string (⟨#[]⟩ : ByteArray)):=(ah Bz.out 2).trans rfl;have G5 : Gg.cell? ⟨BF,3,none⟩ = some (.int .u8 0):=(ah Bz.out 3).trans rfl;have G6 : Gg.cell? ⟨BF,4,none⟩ = some (.int .u16 0):=(ah Bz.out 4).trans rfl;have G7 : Gg.cell? ⟨BF,5,none⟩ = some (.slice none 0 0):=(ah Bz.out 5).trans rfl;have G8:=ay Bz.out 0;have G9:=ay Bz.out 1;have He:=ay Bz.out 2;have Hf:=ay Bz.out 3;have Hg:=ay Bz.out 4;have Hl:=ay Bz.out 5;have FB : Gg.cell? ⟨BR,0,none⟩ = some (.string ((aJ Bu Bv).f0)):=(ah BJ.out 0).trans rfl;have FC : Gg.cell? ⟨BR,1,none⟩ = some (.string ((aJ Bu Bv).f1)):=(ah BJ.out 1).trans rfl;have Ho : Gg.cell? ⟨BR,2,none⟩ = some (.string ((aJ Bu Bv).f2)):=(ah BJ.out 2).trans rfl;have Hq : Gg.cell? ⟨BR,3,none⟩ = some (.int .u8 ((aJ Bu Bv).f3)):=(ah BJ.out 3).trans rfl;have Hr : Gg.cell? ⟨BR,4,none⟩ = some (.int .u16 ((aJ Bu Bv).f4)):=(ah BJ.out 4).trans rfl;have Ht : Gg.cell? ⟨BR,5,none⟩ = some (.slice DI ((aJ Bu Bv).f5).length Dn):=(ah BJ.out 5).trans rfl;have FD:=ay BJ.out 0;have FE:=ay BJ.out 1;have Hu:=ay BJ.out 2;have Hw:=ay BJ.out 3;have Hy:=ay BJ.out 4;have Hz:=ay BJ.out 5))
      go_loopg [33] k1 (fun kq v33 w'=>∃ (Cj : Int) (Ch : List (S89)) (CK : Value),v33 = .int .i64 Cj ∧ Aside0 (aY.l1 kq Bu (Bu.length : Int) Bv ((aJ Bu Bv).f5) (((aJ Bu Bv).f5).length : Int) Cj Bw Cn ((aJ Bu Bv).f0) ((aJ Bu Bv).f1) ((aJ Bu Bv).f2) ((aJ Bu Bv).f3) ((aJ Bu Bv).f4) Ch = some (r1,r2)) ∧ Aside0 (kq ≤ k1) ∧ Aside0 (Kd.S k88 88 w' w.heap.size (fun k_=>some k_ ≠ (CK : Value).ownBlock ∧ k_ ≠ BF) BQ Cn) ∧ Aside0 (Kd.R k89 89 w' w.heap.size (fun _=>True) CK Ch) ∧ Aside0 (w'.heap[Ca]? = some (.cells #[.int .u64 Bw,(.slice (some Dy) Bu.length BP)] 29 (0,0))) ∧ Aside0 (w'.heap[Ce]? = some (.cells #[.int .u64 0,(.slice none 0 0)] 39 (0,0))) ∧ Aside0 (w'.heap[Cc]? = some (.cells #[.int .u64 Bw,BQ] 39 (0,0))) ∧ Aside0 (w'.heap[BR]? = some (.cells #[.string ((aJ Bu Bv).f0),.string ((aJ Bu Bv).f1),.string ((aJ Bu Bv).f2),.int .u8 ((aJ Bu Bv).f3),.int .u16 ((aJ Bu Bv).f4),(.slice DI ((aJ Bu Bv).f5).length Dn)] 71 (0,0))) ∧ Aside0 (w'.heap[BF]? = some (.cells #[.string ((aJ Bu Bv).f0),.string ((aJ Bu Bv).f1),.string ((aJ Bu Bv).f2),.int .u8 ((aJ Bu Bv).f3),.int .u16 ((aJ Bu Bv).f4),CK] 88 (0,0))) ∧ Aside0 (Below w.heap.size w w'))
      case atStart=>exact ⟨(0),(([] : List (S89))),(.slice none 0 0),(by first|rfl|(simp;done)|(simp [*];done)),H',⟨Nat.le_refl _⟩,⟨by (with_reducible repeat (first|apply Kd.bP|apply Kd.bQ|apply Kd.cB));exact Kd.iB (Kd.fJ (p:=⟨BF,5,none⟩) (Kd.fJ (p:=⟨BF,4,none⟩) (Kd.fJ (p:=⟨BF,3,none⟩) (Kd.fJ (p:=⟨BF,2,none⟩) (Kd.fJ (p:=⟨BF,1,none⟩) (Kd.fJ (p:=⟨BF,0,none⟩) (Kd.iB BD.out (fun k_ hk=>(⟨hk,hk.2⟩ : _ ∧ k_ ≠ BF))) (fun _ hk=>hk.2) (.string ((aJ Bu Bv).f0))) (fun _ hk=>hk.2) (.string ((aJ Bu Bv).f1))) (fun _ hk=>hk.2) (.string ((aJ Bu Bv).f2))) (fun _ hk=>hk.2) (.int .u8 ((aJ Bu Bv).f3))) (fun _ hk=>hk.2) (.int .u16 ((aJ Bu Bv).f4))) (fun _ hk=>hk.2) (.slice none 0 0)) (fun _ hk=>⟨(by simp [Value.ownBlock]),hk.1.2⟩)⟩,⟨by first|exact Kd.jy _ _ _ _ _|exact Kd.kQ _ _ _ _ _|exact Kd.pU _ _ _ _ _|exact Kd.pG _ _ _ _ _|exact Kd.pK _ _ _ _ _⟩,⟨by (with_reducible repeat (first|apply aj|apply av|apply ak));refine aH ?_ Cu.out _;(with_reducible repeat (first|apply aj|apply av|apply ak));refine aH ?_ Cu.out _;(with_reducible repeat (first|apply aj|apply av|apply ak));refine aH ?_ Cu.out _;(with_reducible repeat (first|apply aj|apply av|apply ak));refine aH ?_ Cu.out _;(with_reducible repeat (first|apply aj|apply av|apply ak));refine aH ?_ Cu.out _;(with_reducible repeat (first|apply aj|apply av|apply ak));refine aH ?_ Cu.out _;(with_reducible repeat (first|apply aj|apply av|apply ak));exact BH.out⟩,⟨by (with_reducible repeat (first|apply aj|apply av|apply ak));refine aH ?_ Cv.out _;(with_reducible repeat (first|apply aj|apply av|apply ak));refine aH ?_ Cv.out _;(with_reducible repeat (first|apply aj|apply av|apply ak));refine aH ?_ Cv.out _;(with_reducible repeat (first|apply aj|apply av|apply ak));refine aH ?_ Cv.out _;(with_reducible repeat (first|apply aj|apply av|apply ak));refine aH ?_ Cv.out _;(with_reducible repeat (first|apply aj|apply av|apply ak));refine aH ?_ Cv.out _;(with_reducible repeat (first|apply aj|apply av|apply ak));exact BO.out⟩,⟨by (with_reducible repeat (first|apply aj|apply av|apply ak));refine aH ?_ Cw.out _;(with_reducible repeat (first|apply aj|apply av|apply ak));refine aH ?_ Cw.out _;(with_reducible repeat (first|apply aj|apply av|apply ak));refine aH ?_ Cw.out _;(with_reducible repeat (first|apply aj|apply av|apply ak));refine aH ?_ Cw.out _;(with_reducible repeat (first|apply aj|apply av|apply ak));refine aH ?_ Cw.out _;(with_reducible repeat (first|apply aj|apply av|apply ak));refine aH ?_ Cw.out _;(with_reducible repeat (first|apply aj|apply av|apply ak));exact BI.out⟩,⟨by (with_reducible repeat (first|apply aj|apply av|apply ak));refine aH ?_ Cz.out _;(with_reducible repeat (first|apply aj|apply av|apply ak));refine aH ?_ Cz.out _;(with_reducible repeat (first|apply aj|apply av|apply ak));refine aH ?_ Cz.out _;(with_reducible repeat (first|apply aj|apply av|apply ak));refine aH ?_ Cz.out _;(with_reducible repeat (first|apply aj|apply av|apply ak));refine aH ?_ Cz.out _;(with_reducible repeat (first|apply aj|apply av|apply ak));refine aH ?_ Cz.out _;(with_reducible repeat (first|apply aj|apply av|apply ak));exact BJ.out⟩,⟨by (with_reducible repeat (first|apply aj|apply av|apply ak));refine aT (cs:=#[.string ((aJ Bu Bv).f0),.string ((aJ Bu Bv).f1),.string ((aJ Bu Bv).f2),.int .u8 ((aJ Bu Bv).f3),.int .u16 ((aJ Bu Bv).f4),.slice none 0 0]) ?_ 5 _ rfl;(with_reducible repeat (first|apply aj|apply av|apply ak));refine aT (cs:=#[.string ((aJ Bu Bv).f0),.string ((aJ Bu Bv).f1),.string ((aJ Bu Bv).f2),.int .u8 ((aJ Bu Bv).f3),.int .u16 0,.slice none 0 0]) ?_ 4 _ rfl;(with_reducible repeat (first|apply aj|apply av|apply ak));refine aT (cs:=#[.string ((aJ Bu Bv).f0),.string ((aJ Bu Bv).f1),.string ((aJ Bu Bv).f2),.int .u8 0,.int .u16 0,.slice none 0 0]) ?_ 3 _ rfl;(with_reducible repeat (first|apply aj|apply av|apply ak));refine aT (cs:=#[.string ((aJ Bu Bv).f0),.string ((aJ Bu Bv).f1),.string (⟨#[]⟩ : ByteArray),.int .u8 0,.int .u16 0,.slice none 0 0]) ?_ 2 _ rfl;(with_reducible repeat (first|apply aj|apply av|apply ak));refine aT (cs:=#[.string ((aJ Bu Bv).f0),.string (⟨#[]⟩ : ByteArray),.string (⟨#[]⟩ : ByteArray),.int .u8 0,.int .u16 0,.slice none 0 0]) ?_ 1 _ rfl;(with_reducible repeat (first|apply aj|apply av|apply ak));refine aT (cs:=#[.string (⟨#[]⟩ : ByteArray),.string (⟨#[]⟩ : ByteArray),.string (⟨#[]⟩ : ByteArray),.int .u8 0,.int .u16 0,.slice none 0 0]) ?_ 0 _ rfl;(with_reducible repeat (first|apply aj|apply av|apply ak));exact Bz.out⟩,⟨hb_⟩⟩
      case round =>
       clear H'
       try clear c1
       try clear c2
       try clear p2
       try clear q2
       try clear hx2
       try clear c4
       try clear c7
       try clear c8
       try clear c10
       try clear c11
       try clear c11b0
       try clear c12
       try clear c12b0
       try clear c13
       try clear c13b0
       try clear c15
       try clear c16
       try clear c17
       try clear c20
       try clear c21
       try clear OJ
       try clear OL
       try clear OD
       try clear OM
       try clear c23
       try clear Ew
       try clear Ey
       try clear Gz
       try clear GA
       try clear GD
       try clear GI
       try clear GJ
       try clear GK
       try clear GX
       try clear GY
       try clear GZ
       try clear G5
       try clear G6
       try clear G7
       try clear FB
       try clear FC
       try clear Ho
       try clear Hq
       try clear Hr
       try clear Ht
       try clear DT
       try clear DU
       try clear DZ
       try clear D5
       try clear Ez
       try clear EA
       try clear GL
       try clear GN
       try clear GQ
       try clear GR
       try clear GU
       try clear GV
       try clear G8
       try clear G9
       try clear He
       try clear Hf
       try clear Hg
       try clear Hl
       try clear FD
       try clear FE
       try clear Hu
       try clear Hw
       try clear Hy
       try clear Hz
       try clear DV
       try clear DW
       try clear D6
       try clear D7
       try clear EB
       try clear EC
       try clear ED
       try clear EF
       try clear EG
       try clear EH
       try clear p2
       try clear Gw
       try clear Gx
       obtain ⟨Cj,Ch,CK,rfl,HA,J4,BD,BZ,BH,BO,BI,BJ,Bz,HB⟩:=hrel
       cases gk with
       | zero=>exact absurd HA.out (by simp [aY.l1])
       | succ k2 =>
        have H:=HA.out
        clear HA
        simp only [aY.l1] at H
        by_cases IV : Cj < (((aJ Bu Bv).f5).length : Int)
        ·rw [if_pos IV] at H
         have c26b0 : decide (Cj < (((aJ Bu Bv).f5).length : Int)) = true:=decide_eq_true IV
         clear IV
         by_cases J5 : 0 ≤ Cj
         ·rw [if_pos J5] at H
          have c27b0 : decide (0 ≤ Cj) = true:=decide_eq_true J5
          clear J5
          by_cases c28 : Cj < (((aJ Bu Bv).f5).length : Int)
          ·rw [if_pos c28] at H
           have c28b0 : decide (Cj < (((aJ Bu Bv).f5).length : Int)) = true:=decide_eq_true c28
           clear c28
           by_cases J6 : Ch.length < 4398046511104
           ·rw [if_pos J6] at H
            have Jm:=Aside0.mk J6
            clear J6
            obtain ⟨Gl,Fg⟩ : ∃ y_ : List (S89),y_ = (Ch ++ [(⟨(fF ((aJ Bu Bv).f5) Cj).f0,(fF ((aJ Bu Bv).f5) Cj).f1⟩ : S89)]):=⟨_,rfl⟩
            replace H : (aY.l1 k2 Bu (Bu.length : Int) Bv ((aJ Bu Bv).f5) (((aJ Bu Bv).f5).length : Int) (wrap64 (Cj + 1)) Bw Cn ((aJ Bu Bv).f0) ((aJ Bu Bv).f1) ((aJ Bu Bv).f2) ((aJ Bu Bv).f3) ((aJ Bu Bv).f4) Gl) = some (r1,r2):=by first|(rw [Fg];with_reducible exact H)|(have EP:=(Option.bind_some _ _).symm.trans H;rw [Fg];with_reducible exact EP)|(have EP:=(Option.bind_some _ _).symm.trans H;with_reducible exact EP)|with_reducible exact H|(rw [Fg];exact H)|exact H
            have Jo:=Aside0.mk Fg
            clear Fg
            have H':=Aside0.mk H
            clear H
            have Iz : 0 ≤ (Cj : Int):=of_decide_eq_true (by first|(with_reducible assumption)|assumption)
            have IB : Cj < (((aJ Bu Bv).f5).length : Int):=of_decide_eq_true (by first|(with_reducible assumption)|assumption)
            obtain ⟨FR,e216,EX,EY⟩:=rY Gy.out Cj Iz IB
            cases e216
            replace EX:=(HB.out.cell (World.block_lt_of_cell? w _ EX)).trans EX
            replace EY:=(HB.out.cell (World.block_lt_of_cell? w _ EY)).trans EY
            replace Iz:=eq_true Iz
            replace IB:=eq_true IB
            go_wp2_with (first|((with_reducible refine dz (N:=8) rfl ?_);refine dJ ?hg (N:=8) ?hd (cs:=#[.string (⟨#[]⟩ : ByteArray),.string (⟨#[]⟩ : ByteArray)]) (t:=73) ?hr ?_;(case hd=>rfl);(case hg=>rfl);(case hr=>first|(go_simp;done)|(go_simp;rfl));intro CW hg Io hbox hb;have CX:=Aside0.mk (Kd.dK (by (with_reducible repeat (first|apply Kd.bP|apply Kd.bQ|apply Kd.cB));exact BD.out) hb);have CY:=Aside0.mk (Kd.eG (kr_ BZ.out) hb);have CZ:=Aside0.mk (aI (g:=Ca) (o:=.cells #[.int .u64 Bw,.slice (some Dy) Bu.length BP] 29 (0,0)) (bk_ BH.out) hb);have C8:=Aside0.mk (aI (g:=Ce) (o:=.cells #[.int .u64 0,.slice none 0 0] 39 (0,0)) (bk_ BO.out) hb);have Dl:=Aside0.mk (aI (g:=Cc) (o:=.cells #[.int .u64 Bw,BQ] 39 (0,0)) (bk_ BI.out) hb);have Dm:=Aside0.mk (aI (g:=BR) (o:=.cells #[.string ((aJ Bu Bv).f0),.string ((aJ Bu Bv).f1),.string ((aJ Bu Bv).f2),.int .u8 ((aJ Bu Bv).f3),.int .u16 ((aJ Bu Bv).f4),.slice (some FR) ((aJ Bu Bv).f5).length Dn] 71 (0,0)) (bk_ BJ.out) hb);have Dp:=Aside0.mk (aI (g:=BF) (o:=.cells #[.string ((aJ Bu Bv).f0),.string ((aJ Bu Bv).f1),.string ((aJ Bu Bv).f2),.int .u8 ((aJ Bu Bv).f3),.int .u16 ((aJ Bu Bv).f4),CK] 88 (0,0)) (bk_ Bz.out) hb);have Es:=Aside0.mk (aN hb_ hb);have Et:=Aside0.mk (hbox);have EI:=Aside0.mk ((by rw [hg];exact (aU hb_) : w.heap.size ≤ CW));have DJ:=Aside0.mk ((by rw [hg];exact (aU hb_) : w.heap.size ≤ CW));have DK:=Aside0.mk ((by rw [hg];exact Nat.ne_of_lt (bE (g:=Ca) (o:=.cells #[.int .u64 Bw,.slice (some Dy) Bu.length BP] 29 (0,0)) (bk_ BH.out)) : Ca ≠ CW));have DL:=Aside0.mk ((by rw [hg];exact Nat.ne_of_gt (bE (g:=Ca) (o:=.cells #[.int .u64 Bw,.slice (some Dy) Bu.length BP] 29 (0,0)) (bk_ BH.out)) : CW ≠ Ca));have DN:=Aside0.mk ((by rw [hg];exact Nat.ne_of_lt (bE (g:=Ce) (o:=.cells #[.int .u64 0,.slice none 0 0] 39 (0,0)) (bk_ BO.out)) : Ce ≠ CW));have Gh:=Aside0.mk ((by rw [hg];exact Nat.ne_of_gt (bE (g:=Ce) (o:=.cells #[.int .u64 0,.slice none 0 0] 39 (0,0)) (bk_ BO.out)) : CW ≠ Ce));have Gi:=Aside0.mk ((by rw [hg];exact Nat.ne_of_lt (bE (g:=Cc) (o:=.cells #[.int .u64 Bw,BQ] 39 (0,0)) (bk_ BI.out)) : Cc ≠ CW));have Gj:=Aside0.mk ((by rw [hg];exact Nat.ne_of_gt (bE (g:=Cc) (o:=.cells #[.int .u64 Bw,BQ] 39 (0,0)) (bk_ BI.out)) : CW ≠ Cc));have Jp:=Aside0.mk ((by rw [hg];exact Nat.ne_of_lt (bE (g:=BR) (o:=.cells #[.string ((aJ Bu Bv).f0),.string ((aJ Bu Bv).f1),.string ((aJ Bu Bv).f2),.int .u8 ((aJ Bu Bv).f3),.int .u16 ((aJ Bu Bv).f4),.slice (some FR) ((aJ Bu Bv).f5).length Dn] 71 (0,0)) (bk_ BJ.out)) : BR ≠ CW));have Jq:=Aside0.mk ((by rw [hg];exact Nat.ne_of_gt (bE (g:=BR) (o:=.cells #[.string ((aJ Bu Bv).f0),.string ((aJ Bu Bv).f1),.string ((aJ Bu Bv).f2),.int .u8 ((aJ Bu Bv).f3),.int .u16 ((aJ Bu Bv).f4),.slice (some FR) ((aJ Bu Bv).f5).length Dn] 71 (0,0)) (bk_ BJ.out)) : CW ≠ BR));have Jr:=Aside0.mk ((by rw [hg];exact Nat.ne_of_lt (bE (g:=BF) (o:=.cells #[.string ((aJ Bu Bv).f0),.string ((aJ Bu Bv).f1),.string ((aJ Bu Bv).f2),.int .u8 ((aJ Bu Bv).f3),.int .u16 ((aJ Bu Bv).f4),CK] 88 (0,0)) (bk_ Bz.out)) : BF ≠ CW));have Js:=Aside0.mk ((by rw [hg];exact Nat.ne_of_gt (bE (g:=BF) (o:=.cells #[.string ((aJ Bu Bv).f0),.string ((aJ Bu Bv).f1),.string ((aJ Bu Bv).f2),.int .u8 ((aJ Bu Bv).f3),.int .u16 ((aJ Bu Bv).f4),CK] 88 (0,0)) (bk_ Bz.out)) : CW ≠ BF));clear BD;clear BZ;clear BH;clear BO;clear BI;clear BJ;clear Bz;clear HB;have BD:=CX;have BZ:=CY;have BH:=CZ;have BO:=C8;have BI:=Dl;have BJ:=Dm;have Bz:=Dp;have HB:=Es;have DF:=Et;have Nc:=EI;have Nf:=DJ;have Ee:=DK;have F4:=DL;have Ef:=DN;have F5:=Gh;have Eh:=Gi;have F6:=Gj;have Ei:=Jp;have F7:=Jq;have Ej:=Jr;have F8:=Js;clear CX CY CZ C8 Dl Dm Dp Es Et EI DJ DK DL DN Gh Gi Gj Jp Jq Jr Js;clear hb hbox hg;have Ng:=F4.out;have Nh:=Ee.out;have Jt:=F5.out;have Ju:=Ef.out;have Nk:=F6.out;have Nl:=Eh.out;have Nn:=F7.out;have Np:=Ei.out;have Nq:=F8.out;have Nr:=Ej.out;have J7 : Io.cell? ⟨CW,0,none⟩ = some (.string (⟨#[]⟩ : ByteArray)):=(ah DF.out 0).trans rfl;have J8 : Io.cell? ⟨CW,1,none⟩ = some (.string (⟨#[]⟩ : ByteArray)):=(ah DF.out 1).trans rfl;have J9:=ay DF.out 0;have Ka:=ay DF.out 1;have Ns:=Ea.out;have Nt:=Cu.out;have Nu:=Eb.out;have Nv:=Cv.out;have Nw:=Ec.out;have Ny:=Cw.out;have Nz:=Ed.out;have NA:=Cz.out;have Ke : Io.cell? ⟨BF,0,none⟩ = some (.string ((aJ Bu Bv).f0)):=(ah Bz.out 0).trans rfl;have Kg : Io.cell? ⟨BF,1,none⟩ = some (.string ((aJ Bu Bv).f1)):=(ah Bz.out 1).trans rfl;have Kh : Io.cell? ⟨BF,2,none⟩ = some (.string ((aJ Bu Bv).f2)):=(ah Bz.out 2).trans rfl;have Ki : Io.cell? ⟨BF,3,none⟩ = some (.int .u8 ((aJ Bu Bv).f3)):=(ah Bz.out 3).trans rfl;have Kj : Io.cell? ⟨BF,4,none⟩ = some (.int .u16 ((aJ Bu Bv).f4)):=(ah Bz.out 4).trans rfl;have Kk : Io.cell? ⟨BF,5,none⟩ = some (CK):=(ah Bz.out 5).trans rfl;have Kl:=ay Bz.out 0;have Km:=ay Bz.out 1;have Kn:=ay Bz.out 2;have Ko:=ay Bz.out 3;have Kq:=ay Bz.out 4;have Kr:=ay Bz.out 5)|((with_reducible refine je (b:=.append) (xs:=#[.tmp 38,.tmp 40]) rfl ?_);at_builtin;refine Kd.jK k89 (w0:=w) w.heap.size rfl (.tmp 38) (.tmp 40) 86 89 (.agg #[(.string ⟨#[]⟩),(.string ⟨#[]⟩)]) 32 rfl Tryz.underlying86 zq rfl (by decide) (by omega) CK Ch (⟨(fF ((aJ Bu Bv).f5) Cj).f0,(fF ((aJ Bu Bv).f5) Cj).f1⟩ : S89) [.string ((fF ((aJ Bu Bv).f5) Cj).f0),.string ((fF ((aJ Bu Bv).f5) Cj).f1)] (fun _=>True) (fun _=>False) rfl (by first|(go_simp;done)|(go_simp;rfl)) ?aP (fun _ hk=>hk.elim) ?aF ?aO ?aB ?aS ?aL ?_;(case aP=>exact tN _ _ _ (⟨(fF ((aJ Bu Bv).f5) Cj).f0,(fF ((aJ Bu Bv).f5) Cj).f1⟩ : S89));(case aB=>exact hb_);(case aF=>exact (fun _ _=>trivial));(case aO=>exact (by (with_reducible repeat (first|apply Kd.ig|apply Kd.iq|apply Kd.iG));exact Kd.fB (Kd.gL (p:=⟨CW,1,none⟩) (Kd.gL (p:=⟨CW,0,none⟩) (Kd.gZ BZ.out DF.out (by decide)) (fun _ hk=>hk.2) (.string ((fF ((aJ Bu Bv).f5) Cj).f0))) (fun _ hk=>hk.2) (.string ((fF ((aJ Bu Bv).f5) Cj).f1))) (fun _ hk=>trivial)));(case aS=>exact (aU hb_));(case aL=>have:=Jm.out;omega);intro OE IW ho hb hg hat;rw [← Jo.out] at ho;have CX:=Aside0.mk (Kd.xB (ok:=(fun k_=>k_ ≠ BF)) (by (with_reducible repeat (first|apply Kd.bP|apply Kd.bQ|apply Kd.cB));exact Kd.iB (Kd.fJ (p:=⟨CW,1,none⟩) (Kd.fJ (p:=⟨CW,0,none⟩) (Kd.iW BD.out DF.out (by decide)) (fun _ hk=>hk.2) (.string ((fF ((aJ Bu Bv).f5) Cj).f0))) (fun _ hk=>hk.2) (.string ((fF ((aJ Bu Bv).f5) Cj).f1))) (fun _ hk=>⟨hk.1.2,hk.1.1⟩)) hg hat);have CY:=Aside0.mk (dU (g:=Ca) (o:=.cells #[.int .u64 Bw,.slice (some Dy) Bu.length BP] 29 (0,0)) (by (with_reducible repeat (first|apply aj|apply av|apply ak));refine aH ?_ Ee.out _;(with_reducible repeat (first|apply aj|apply av|apply ak));refine aH ?_ Ee.out _;(with_reducible repeat (first|apply aj|apply av|apply ak));exact BH.out) hg (Kd.ji BZ.out BH.out (by decide)));have CZ:=Aside0.mk (dU (g:=Ce) (o:=.cells #[.int .u64 0,.slice none 0 0] 39 (0,0)) (by (with_reducible repeat (first|apply aj|apply av|apply ak));refine aH ?_ Ef.out _;(with_reducible repeat (first|apply aj|apply av|apply ak));refine aH ?_ Ef.out _;(with_reducible repeat (first|apply aj|apply av|apply ak));exact BO.out) hg (Kd.ji BZ.out BO.out (by decide)));have C8:=Aside0.mk (dU (g:=Cc) (o:=.cells #[.int .u64 Bw,BQ] 39 (0,0)) (by (with_reducible repeat (first|apply aj|apply av|apply ak));refine aH ?_ Eh.out _;(with_reducible repeat (first|apply aj|apply av|apply ak));refine aH ?_ Eh.out _;(with_reducible repeat (first|apply aj|apply av|apply ak));exact BI.out) hg (Kd.ji BZ.out BI.out (by decide)));have Dl:=Aside0.mk (dU (g:=BR) (o:=.cells #[.string ((aJ Bu Bv).f0),.string ((aJ Bu Bv).f1),.string ((aJ Bu Bv).f2),.int .u8 ((aJ Bu Bv).f3),.int .u16 ((aJ Bu Bv).f4),.slice (some FR) ((aJ Bu Bv).f5).length Dn] 71 (0,0)) (by (with_reducible repeat (first|apply aj|apply av|apply ak));refine aH ?_ Ei.out _;(with_reducible repeat (first|apply aj|apply av|apply ak));refine aH ?_ Ei.out _;(with_reducible repeat (first|apply aj|apply av|apply ak));exact BJ.out) hg (Kd.ji BZ.out BJ.out (by decide)));have Dm:=Aside0.mk (dU (g:=BF) (o:=.cells #[.string ((aJ Bu Bv).f0),.string ((aJ Bu Bv).f1),.string ((aJ Bu Bv).f2),.int .u8 ((aJ Bu Bv).f3),.int .u16 ((aJ Bu Bv).f4),CK] 88 (0,0)) (by (with_reducible repeat (first|apply aj|apply av|apply ak));refine aH ?_ Ej.out _;(with_reducible repeat (first|apply aj|apply av|apply ak));refine aH ?_ Ej.out _;(with_reducible repeat (first|apply aj|apply av|apply ak));exact Bz.out) hg (Kd.ji BZ.out Bz.out (by decide)));have Dp:=Aside0.mk (dU (g:=CW) (o:=.cells #[.string ((fF ((aJ Bu Bv).f5) Cj).f0),.string ((fF ((aJ Bu Bv).f5) Cj).f1)] 73 (0,0)) (by (with_reducible repeat (first|apply aj|apply av|apply ak));refine aT (cs:=#[.string ((fF ((aJ Bu Bv).f5) Cj).f0),.string (⟨#[]⟩ : ByteArray)]) ?_ 1 _ rfl;(with_reducible repeat (first|apply aj|apply av|apply ak));refine aT (cs:=#[.string (⟨#[]⟩ : ByteArray),.string (⟨#[]⟩ : ByteArray)]) ?_ 0 _ rfl;(with_reducible repeat (first|apply aj|apply av|apply ak));exact DF.out) hg (Kd.ji BZ.out DF.out (by decide)));have Es:=Aside0.mk (hb);have Et:=Aside0.mk (ho);clear BD;clear BH;clear BO;clear BI;clear BJ;clear Bz;clear DF;clear HB;clear BZ;have BD:=CX;have BH:=CY;have BO:=CZ;have BI:=C8;have BJ:=Dl;have Bz:=Dm;have DF:=Dp;have HB:=Es;have Ip:=Et;clear CX CY CZ C8 Dl Dm Dp Es Et;clear ho hb hg hat;obtain ⟨IC,IE,Mq⟩:=Kd.gH Ip.out;subst Mq;have Kt : IW.cell? ⟨BF,0,none⟩ = some (.string ((aJ Bu Bv).f0)):=(ah Bz.out 0).trans rfl;have Ku : IW.cell? ⟨BF,1,none⟩ = some (.string ((aJ Bu Bv).f1)):=(ah Bz.out 1).trans rfl;have Kv : IW.cell? ⟨BF,2,none⟩ = some (.string ((aJ Bu Bv).f2)):=(ah Bz.out 2).trans rfl;have Kw : IW.cell? ⟨BF,3,none⟩ = some (.int .u8 ((aJ Bu Bv).f3)):=(ah Bz.out 3).trans rfl;have Ky : IW.cell? ⟨BF,4,none⟩ = some (.int .u16 ((aJ Bu Bv).f4)):=(ah Bz.out 4).trans rfl;have Kz : IW.cell? ⟨BF,5,none⟩ = some (CK):=(ah Bz.out 5).trans rfl;have KA:=ay Bz.out 0;have KC:=ay Bz.out 1;have KD:=ay Bz.out 2;have KE:=ay Bz.out 3;have KF:=ay Bz.out 4;have KG:=ay Bz.out 5))
            go_roundg k2
            case measure=>have:=FV.out;have:=J4.out;omega
            case rel=>exact ⟨(wrap64 (Cj + 1)),(Gl),(.slice IC Gl.length IE),(by first|rfl|(simp;done)|(simp [*];done)),H',⟨by have:=FV.out;have:=J4.out;omega⟩,⟨by (with_reducible repeat (first|apply Kd.bP|apply Kd.bQ|apply Kd.cB));exact Kd.iB (Kd.fJ (p:=⟨BF,5,none⟩) (Kd.iB BD.out (fun k_ hk=>(⟨hk,hk.1⟩ : _ ∧ k_ ≠ BF))) (fun _ hk=>hk.2) (.slice IC Gl.length IE)) (fun _ hk=>⟨hk.1.2,hk.1.1⟩)⟩,⟨by (with_reducible repeat (first|apply Kd.ig|apply Kd.iq|apply Kd.iG));exact Kd.fB (Kd.gL (p:=⟨BF,5,none⟩) (Kd.gZ Ip.out Bz.out (by decide)) (fun _ hk=>hk.2) (.slice IC Gl.length IE)) (fun _ hk=>trivial)⟩,⟨by (with_reducible repeat (first|apply aj|apply av|apply ak));refine aH ?_ Cu.out _;(with_reducible repeat (first|apply aj|apply av|apply ak));exact BH.out⟩,⟨by (with_reducible repeat (first|apply aj|apply av|apply ak));refine aH ?_ Cv.out _;(with_reducible repeat (first|apply aj|apply av|apply ak));exact BO.out⟩,⟨by (with_reducible repeat (first|apply aj|apply av|apply ak));refine aH ?_ Cw.out _;(with_reducible repeat (first|apply aj|apply av|apply ak));exact BI.out⟩,⟨by (with_reducible repeat (first|apply aj|apply av|apply ak));refine aH ?_ Cz.out _;(with_reducible repeat (first|apply aj|apply av|apply ak));exact BJ.out⟩,⟨by (with_reducible repeat (first|apply aj|apply av|apply ak));refine aT (cs:=#[.string ((aJ Bu Bv).f0),.string ((aJ Bu Bv).f1),.string ((aJ Bu Bv).f2),.int .u8 ((aJ Bu Bv).f3),.int .u16 ((aJ Bu Bv).f4),CK]) ?_ 5 _ rfl;(with_reducible repeat (first|apply aj|apply av|apply ak));exact Bz.out⟩,⟨hb_⟩⟩
           ·rw [if_neg J6] at H
            exact absurd H (by simp)
          ·rw [if_neg c28] at H
           exact absurd H (by simp)
         ·rw [if_neg J5] at H
          exact absurd H (by simp)
        ·rw [if_neg IV] at H
         have c26b0 : decide (Cj < (((aJ Bu Bv).f5).length : Int)) = false:=decide_eq_false IV
         clear IV
         by_cases KH : Cn.length < 1759218604441
         ·rw [if_pos KH] at H
          have Jv:=Aside0.mk KH
          clear KH
          obtain ⟨H6,Fh⟩ : ∃ y_ : List (S88),y_ = (Cn ++ [(⟨((aJ Bu Bv).f0),((aJ Bu Bv).f1),((aJ Bu Bv).f2),((aJ Bu Bv).f3),((aJ Bu Bv).f4),Ch⟩ : S88)]):=⟨_,rfl⟩
          replace H : (aY.l0 k2 Bu (Bu.length : Int) (wrap64 (Bv + 1)) Bw H6) = some (r1,r2):=by first|(rw [Fh];with_reducible exact H)|(have EP:=(Option.bind_some _ _).symm.trans H;rw [Fh];with_reducible exact EP)|(have EP:=(Option.bind_some _ _).symm.trans H;with_reducible exact EP)|with_reducible exact H|(rw [Fh];exact H)|exact H
          have Jw:=Aside0.mk Fh
          clear Fh
          have H':=Aside0.mk H
          clear H
          have NC:=D8.out
          have ND:=Dh.out
          have NG:=D9.out
          have NH:=Di.out
          have NI:=BG.out
          have NJ:=EN.out
          have NK:=Cw.out
          have NM:=Ec.out
          have KI : wr.cell? ⟨Cc,0,none⟩ = some (.int .u64 Bw):=(ah BI.out 0).trans rfl
          have KJ : wr.cell? ⟨Cc,1,none⟩ = some (BQ):=(ah BI.out 1).trans rfl
          have KL:=ay BI.out 0
          have KM:=ay BI.out 1
          have NP:=Ea.out
          have NQ:=Cu.out
          have NR:=Eb.out
          have NS:=Cv.out
          have NT:=Ed.out
          have NU:=Cz.out
          have KN : wr.cell? ⟨BF,0,none⟩ = some (.string ((aJ Bu Bv).f0)):=(ah Bz.out 0).trans rfl
          have KO : wr.cell? ⟨BF,1,none⟩ = some (.string ((aJ Bu Bv).f1)):=(ah Bz.out 1).trans rfl
          have KP : wr.cell? ⟨BF,2,none⟩ = some (.string ((aJ Bu Bv).f2)):=(ah Bz.out 2).trans rfl
          have KQ : wr.cell? ⟨BF,3,none⟩ = some (.int .u8 ((aJ Bu Bv).f3)):=(ah Bz.out 3).trans rfl
          have KR : wr.cell? ⟨BF,4,none⟩ = some (.int .u16 ((aJ Bu Bv).f4)):=(ah Bz.out 4).trans rfl
          have KS : wr.cell? ⟨BF,5,none⟩ = some (CK):=(ah Bz.out 5).trans rfl
          have KT:=ay Bz.out 0
          have KU:=ay Bz.out 1
          have KV:=ay Bz.out 2
          have KW:=ay Bz.out 3
          have KZ:=ay Bz.out 4
          have K4:=ay Bz.out 5
          obtain ⟨H7,H8,Mr⟩:=Kd.gH BZ.out
          subst Mr
          go_wp2_with (first|((with_reducible refine je (b:=.append) (xs:=#[.tmp 45,.tmp 47]) rfl ?_);at_builtin;refine Kd.qU k88 (w0:=w) w.heap.size rfl (.tmp 45) (.tmp 47) 37 88 (.agg #[(.string ⟨#[]⟩),(.string ⟨#[]⟩),(.string ⟨#[]⟩),(.int .u8 0),(.int .u16 0),(.slice none 0 0)]) 80 rfl Tryz.underlying37 vO rfl (by decide) (by omega) BQ Cn (⟨((aJ Bu Bv).f0),((aJ Bu Bv).f1),((aJ Bu Bv).f2),((aJ Bu Bv).f3),((aJ Bu Bv).f4),Ch⟩ : S88) [.string ((aJ Bu Bv).f0),.string ((aJ Bu Bv).f1),.string ((aJ Bu Bv).f2),.int .u8 ((aJ Bu Bv).f3),.int .u16 ((aJ Bu Bv).f4),.slice H7 Ch.length H8] (fun k_=>k_ ≠ BF) (fun k_=>some k_ = (.slice H7 Ch.length H8 : Value).ownBlock) rfl rfl ?aP (fun k_ hk_=>((Kd.fB (ok':=fun k_=>((fun k_=>k_ ≠ BF)) k_ ∧ some k_ ≠ (BQ : Value).ownBlock) (Kd.gZ (Kd.kP (BZ.out) (Kd.nI BD.out) (by decide)) Bz.out (by decide)) (fun k_ hk=>⟨hk.2,hk.1.2⟩))).1 k_ hk_.symm) ?aF ?aO ?aB ?aS ?aL ?_;(case aP=>exact tO _ _ _ (⟨((aJ Bu Bv).f0),((aJ Bu Bv).f1),((aJ Bu Bv).f2),((aJ Bu Bv).f3),((aJ Bu Bv).f4),Ch⟩ : S88) (Kd.fB (Kd.qx rfl (Kd.fB (ok':=fun k_=>((fun k_=>k_ ≠ BF)) k_ ∧ some k_ ≠ (BQ : Value).ownBlock) (Kd.gZ (Kd.kP (BZ.out) (Kd.nI BD.out) (by decide)) Bz.out (by decide)) (fun k_ hk=>⟨hk.2,hk.1.2⟩))) (fun _ h_=>h_)));(case aB=>exact hb_);(case aF=>exact (fun k_ hk=>Kd.gT (g:=BF) (o:=.cells #[.string ((aJ Bu Bv).f0),.string ((aJ Bu Bv).f1),.string ((aJ Bu Bv).f2),.int .u8 ((aJ Bu Bv).f3),.int .u16 ((aJ Bu Bv).f4),.slice H7 Ch.length H8] 88 (0,0)) (bk_ Bz.out) k_ hk));(case aO=>exact (by (with_reducible repeat (first|apply Kd.bP|apply Kd.bQ|apply Kd.cB));exact Kd.iB BD.out (fun k_ hk=>⟨hk.2,fun e_=>hk.1 e_⟩)));(case aS=>exact (aU hb_));(case aL=>have:=Jv.out;omega);intro v222 NV ho hb hg hat;rw [← Jw.out] at ho;have CX:=Aside0.mk (dU (g:=Ca) (o:=.cells #[.int .u64 Bw,.slice (some Dy) Bu.length BP] 29 (0,0)) (bk_ BH.out) hg (Kd.mJ BD.out BH.out (by decide)));have CY:=Aside0.mk (dU (g:=Ce) (o:=.cells #[.int .u64 0,.slice none 0 0] 39 (0,0)) (bk_ BO.out) hg (Kd.mJ BD.out BO.out (by decide)));have CZ:=Aside0.mk (dU (g:=Cc) (o:=.cells #[.int .u64 Bw,BQ] 39 (0,0)) (bk_ BI.out) hg (Kd.mJ BD.out BI.out (by decide)));have C8:=Aside0.mk (dU (g:=BR) (o:=.cells #[.string ((aJ Bu Bv).f0),.string ((aJ Bu Bv).f1),.string ((aJ Bu Bv).f2),.int .u8 ((aJ Bu Bv).f3),.int .u16 ((aJ Bu Bv).f4),.slice DI ((aJ Bu Bv).f5).length Dn] 71 (0,0)) (bk_ BJ.out) hg (Kd.mJ BD.out BJ.out (by decide)));have Dl:=Aside0.mk (dU (g:=BF) (o:=.cells #[.string ((aJ Bu Bv).f0),.string ((aJ Bu Bv).f1),.string ((aJ Bu Bv).f2),.int .u8 ((aJ Bu Bv).f3),.int .u16 ((aJ Bu Bv).f4),.slice H7 Ch.length H8] 88 (0,0)) (bk_ Bz.out) hg (Kd.zi BD.out (fun _ hk=>hk.2)));have Dm:=Aside0.mk (hb);have Dp:=Aside0.mk (ho);clear BH;clear BO;clear BI;clear BJ;clear Bz;clear HB;clear BD;clear BZ;have BH:=CX;have BO:=CY;have BI:=CZ;have BJ:=C8;have Bz:=Dl;have HB:=Dm;have Iq:=Dp;clear CX CY CZ C8 Dl Dm Dp;clear ho hb hg hat;obtain ⟨Jy,Jz,Ms⟩:=Kd.iL Iq.out;subst Ms;have K7 : NV.cell? ⟨Cc,0,none⟩ = some (.int .u64 Bw):=(ah BI.out 0).trans rfl;have K8 : NV.cell? ⟨Cc,1,none⟩ = some (BQ):=(ah BI.out 1).trans rfl;have K9:=ay BI.out 0;have La:=ay BI.out 1))
          go_roundg k2
          case measure=>have:=FV.out;have:=J4.out;omega
          case rel=>exact ⟨(wrap64 (Bv + 1)),(H6),(.slice Jy H6.length Jz),(by first|rfl|(simp;done)|(simp [*];done)),H',⟨by have:=FV.out;have:=J4.out;omega⟩,⟨by (with_reducible repeat (first|apply Kd.bP|apply Kd.bQ|apply Kd.cB));exact Kd.iB (Kd.fJ (p:=⟨Cc,1,none⟩) (Kd.iW Iq.out BI.out (by decide)) (fun _ hk=>hk.2) (.slice Jy H6.length Jz)) (fun _ hk=>trivial)⟩,⟨by (with_reducible repeat (first|apply aj|apply av|apply ak));refine aH ?_ Dh.out _;(with_reducible repeat (first|apply aj|apply av|apply ak));exact BH.out⟩,⟨by (with_reducible repeat (first|apply aj|apply av|apply ak));refine aH ?_ Di.out _;(with_reducible repeat (first|apply aj|apply av|apply ak));exact BO.out⟩,⟨by (with_reducible repeat (first|apply aj|apply av|apply ak));refine aT (cs:=#[.int .u64 Bw,BQ]) ?_ 1 _ rfl;(with_reducible repeat (first|apply aj|apply av|apply ak));exact BI.out⟩,⟨hb_⟩⟩
         ·rw [if_neg KH] at H
          exact absurd H (by simp)
     ·rw [if_neg c13] at H
      exact absurd H (by simp)
    ·rw [if_neg c12] at H
     exact absurd H (by simp)
   ·rw [if_neg c11] at H
    have c11b0 : decide (Bv < (Bu.length : Int)) = false:=decide_eq_false c11
    clear c11
    simp only [Option.some.injEq,Prod.mk.injEq] at H
    obtain ⟨rfl,rfl⟩:=H
    have NW:=D8.out
    have NY:=Dh.out
    have NZ:=D9.out
    have N7:=Di.out
    have Lb : wr.cell? ⟨Cc,0,none⟩ = some (.int .u64 Bw):=(ah BI.out 0).trans rfl
    have Lc : wr.cell? ⟨Cc,1,none⟩ = some (BQ):=(ah BI.out 1).trans rfl
    have Ld:=ay BI.out 0
    have Le:=ay BI.out 1
    have N8:=EM.out
    have N9:=EL.out
    have Lf : wr.cell? ⟨Ce,0,none⟩ = some (.int .u64 0):=(ah BO.out 0).trans rfl
    have Lg : wr.cell? ⟨Ce,1,none⟩ = some (.slice none 0 0):=(ah BO.out 1).trans rfl
    have Lh:=ay BO.out 0
    have Li:=ay BO.out 1
    obtain ⟨JA,JB,Mt⟩:=Kd.iL BD.out
    subst Mt
    go_wp2
    refine bodyPost_ret (results_cell_row rfl _ _ Ce 39 #[.int .u64 Bw,.slice JA Cn.length JB] (0,0) _ rfl (by (with_reducible repeat (first|apply aj|apply av|apply ak));refine aT (cs:=#[.int .u64 Bw,.slice none 0 0]) ?_ 1 _ rfl;(with_reducible repeat (first|apply aj|apply av|apply ak));refine aT (cs:=#[.int .u64 0,.slice none 0 0]) ?_ 0 _ rfl;(with_reducible repeat (first|apply aj|apply av|apply ak));exact BO.out) Tryz.underlying39 rfl (by kernel_rfl)) rfl ?_
    exact ⟨_,by first|rfl|(simp [bB,bC] <;> rfl)|(simp [*,bB,bC] <;> rfl),by (with_reducible repeat (first|apply Kd.bP|apply Kd.bQ|apply Kd.cB));exact Kd.iB (Kd.fJ (p:=⟨Ce,1,none⟩) (Kd.fJ (p:=⟨Ce,0,none⟩) (Kd.iW BD.out BO.out (by decide)) (fun _ hk=>hk.2) (.int .u64 Bw)) (fun _ hk=>hk.2) (.slice JA Cn.length JB)) (fun _ hk=>trivial),hb_⟩
def aR.l0 : Nat → Int → Int → List (S85) → Int → List (S88) → Option (Int × (List (S88)))
 | 0,_,_,_,_,_=>none
 | k + 1,x4,H9,DC,FT,EZ=>if x4 < (DC.length : Int) then (if 0 ≤ x4 then (if EZ.length < 1759218604441 then (aR.l0 k (wrap64 (x4 + 1)) H9 DC FT (EZ ++ [(⟨(dX DC x4).f0,(dX DC x4).f1,(⟨#[100,101,102,97,117,108,116]⟩ : ByteArray),(dX DC x4).f3,30,(([(⟨(⟨#[109,97,105,110]⟩ : ByteArray),(dX DC x4).f2⟩ : S89)] : List (S89)))⟩ : S88)])) else (none)) else (none)) else (some (FT,EZ))
def aR.f (k : Nat) (Bw : Int) (Bu : List (S85)) : Option (Int × (List (S88))):=aR.l0 k 0 Bw Bu (IntKind.u64.wrap (Bw)) ([] : List (S88))
theorem aR.eB : ∀ k,(∀ y0 y1 y2 y3 y4,LeO (aR.l0 k y0 y1 y2 y3 y4) (aR.l0 (k + 1) y0 y1 y2 y3 y4))
 | 0=>fun _ _ _ _ _ r h=>by simp [aR.l0] at h
 | k + 1=>by
  have Eu:=aR.eB k
  ·intro y0 y1 y2 y3 y4
   unfold aR.l0
   repeat' first
   | (with_reducible exact Eu _ _ _ _ _)
   | (with_reducible exact LeO.refl _)
   | (with_reducible exact LeO.none _)
   | (with_reducible refine LeO.ite ?_ ?_)
   | (with_reducible refine LeO.bind ?_ (fun _=>?_))
   | exact Eu _ _ _ _ _
   | exact LeO.none _
   | refine LeO.ite ?_ ?_
   | refine LeO.bind ?_ (fun _=>?_)
theorem aR.mono : ∀ a0 a1 k,LeO (aR.f k a0 a1) (aR.f (k + 1) a0 a1):=by
 intro a0 a1 k
 have Eu:=aR.eB k
 unfold aR.f
 repeat' first
   | (with_reducible exact Eu _ _ _ _ _)
   | (with_reducible exact LeO.refl _)
   | (with_reducible exact LeO.none _)
   | (with_reducible refine LeO.ite ?_ ?_)
   | (with_reducible refine LeO.bind ?_ (fun _=>?_))
   | exact Eu _ _ _ _ _
   | exact LeO.none _
   | refine LeO.ite ?_ ?_
   | refine LeO.bind ?_ (fun _=>?_)
set_option maxHeartbeats 8000000 in
set_option maxRecDepth 100000 in
theorem aR.calls (k : Nat) (Bw : Int) (Cr : Option Addr) (BP : Nat) (Bu : List (S85)) (r1 : Int) (r2 : List (S88)) (w : World) (Ep : Kd.C k85 w Cr Bu.length Bu) (Er : Bu.length ≤ BP) (h : aR.f k Bw Bu = some (r1,r2)) :
  Calls Tryz.prog 13 #[.agg #[.int .u32 Bw,.slice Cr Bu.length BP]] w fun e w'=>∃ Ig : Value,e = .returned (.agg #[.int .u64 r1,Ig]) ∧ Kd.S k88 88 w' w.heap.size (fun _=>True) Ig r2 ∧ Below w.heap.size w w':=by
 have Ma:=Tryz.underlying35
 have Mk:=Tryz.underlying39
 have OG:=Tryz.underlying85
 have OH:=Tryz.underlying89
 have Ml:=Tryz.underlying88
 have Fb:=Aside0.mk Ep
 have Ih:=Aside0.mk Er
 clear Ep Er
 have HB:=Aside0.mk (Below.refl w.heap.size w)
 have H : (aR.l0 k 0 Bw Bu (IntKind.u64.wrap (Bw)) ([] : List (S88))) = some (r1,r2):=h
 clear h
 have H':=Aside0.mk H
 clear H
 go_enter Tryz.func13,Tryz.ntmps13
 go_wp2_with (first|((with_reducible refine dz (N:=1) rfl ?_);refine dJ ?hg (N:=1) ?hd (cs:=#[.int .u32 Bw,.slice Cr Bu.length BP]) (t:=35) ?hr ?_;(case hd=>rfl);(case hg=>rfl);(case hr=>first|(go_simp;done)|(go_simp;rfl));intro Co hg w2 hbox hb;have CX:=Aside0.mk (aN hb_ hb);have CY:=Aside0.mk (hbox);have CZ:=Aside0.mk ((by rw [hg];exact (aU hb_) : w.heap.size ≤ Co));have C8:=Aside0.mk ((by rw [hg];exact (aU hb_) : w.heap.size ≤ Co));clear HB;have HB:=CX;have BU:=CY;have Oa:=CZ;have Ob:=C8;clear CX CY CZ C8;clear hb hbox hg)|((with_reducible refine dz (N:=2) rfl ?_);refine dJ ?hg (N:=2) ?hd (cs:=#[.int .u64 0,.slice none 0 0]) (t:=39) ?hr ?_;(case hd=>rfl);(case hg=>rfl);(case hr=>first|(go_simp;done)|(go_simp;rfl));intro CP hg w3 hbox hb;have CX:=Aside0.mk (aI (g:=Co) (o:=.cells #[.int .u32 Bw,.slice Cr Bu.length BP] 35 (0,0)) (bk_ BU.out) hb);have CY:=Aside0.mk (aN hb_ hb);have CZ:=Aside0.mk (hbox);have C8:=Aside0.mk ((by rw [hg];exact (aU hb_) : w.heap.size ≤ CP));have Dl:=Aside0.mk ((by rw [hg];exact (aU hb_) : w.heap.size ≤ CP));have Dm:=Aside0.mk ((by rw [hg];exact Nat.ne_of_lt (bE (g:=Co) (o:=.cells #[.int .u32 Bw,.slice Cr Bu.length BP] 35 (0,0)) (bk_ BU.out)) : Co ≠ CP));have Dp:=Aside0.mk ((by rw [hg];exact Nat.ne_of_gt (bE (g:=Co) (o:=.cells #[.int .u32 Bw,.slice Cr Bu.length BP] 35 (0,0)) (bk_ BU.out)) : CP ≠ Co));clear BU;clear HB;have BU:=CX;have HB:=CY;have Cq:=CZ;have Oc:=C8;have Od:=Dl;have El:=Dm;have Em:=Dp;clear CX CY CZ C8 Dl Dm Dp;clear hb hbox hg;have IX:=El.out;have IY:=Em.out;have DT : w3.cell? ⟨Co,0,none⟩ = some (.int .u32 Bw):=(ah BU.out 0).trans rfl;have DU : w3.cell? ⟨Co,1,none⟩ = some (.slice Cr Bu.length BP):=(ah BU.out 1).trans rfl;have DV:=ay BU.out 0;have DW:=ay BU.out 1)|((with_reducible refine dz (N:=3) rfl ?_);refine dJ ?hg (N:=3) ?hd (cs:=#[.int .u64 0,.slice none 0 0]) (t:=39) ?hr ?_;(case hd=>rfl);(case hg=>rfl);(case hr=>first|(go_simp;done)|(go_simp;rfl));intro CJ hg w6 hbox hb;have CX:=Aside0.mk (aI (g:=Co) (o:=.cells #[.int .u32 Bw,.slice Cr Bu.length BP] 35 (0,0)) (bk_ BU.out) hb);have CY:=Aside0.mk (aI (g:=CP) (o:=.cells #[.int .u64 0,.slice none 0 0] 39 (0,0)) (bk_ Cq.out) hb);have CZ:=Aside0.mk (aN hb_ hb);have C8:=Aside0.mk (hbox);have Dl:=Aside0.mk ((by rw [hg];exact (aU hb_) : w.heap.size ≤ CJ));have Dm:=Aside0.mk ((by rw [hg];exact (aU hb_) : w.heap.size ≤ CJ));have Dp:=Aside0.mk ((by rw [hg];exact Nat.ne_of_lt (bE (g:=Co) (o:=.cells #[.int .u32 Bw,.slice Cr Bu.length BP] 35 (0,0)) (bk_ BU.out)) : Co ≠ CJ));have Es:=Aside0.mk ((by rw [hg];exact Nat.ne_of_gt (bE (g:=Co) (o:=.cells #[.int .u32 Bw,.slice Cr Bu.length BP] 35 (0,0)) (bk_ BU.out)) : CJ ≠ Co));have Et:=Aside0.mk ((by rw [hg];exact Nat.ne_of_lt (bE (g:=CP) (o:=.cells #[.int .u64 0,.slice none 0 0] 39 (0,0)) (bk_ Cq.out)) : CP ≠ CJ));have EI:=Aside0.mk ((by rw [hg];exact Nat.ne_of_gt (bE (g:=CP) (o:=.cells #[.int .u64 0,.slice none 0 0] 39 (0,0)) (bk_ Cq.out)) : CJ ≠ CP));clear BU;clear Cq;clear HB;have BU:=CX;have Cq:=CY;have HB:=CZ;have Cg:=C8;have Oe:=Dl;have Og:=Dm;have Dj:=Dp;have En:=Es;have Dk:=Et;have Eo:=EI;clear CX CY CZ C8 Dl Dm Dp Es Et EI;clear hb hbox hg;have IZ:=En.out;have I4:=Dj.out;have I5:=Eo.out;have I6:=Dk.out;have DZ : w6.cell? ⟨CJ,0,none⟩ = some (.int .u64 0):=(ah Cg.out 0).trans rfl;have D5 : w6.cell? ⟨CJ,1,none⟩ = some (.slice none 0 0):=(ah Cg.out 1).trans rfl;have D6:=ay Cg.out 0;have D7:=ay Cg.out 1))
 go_loopg [4] k (fun kq v4 w'=>∃ (Cb : Int) (CB : List (S88)) (Ct : Value),v4 = .int .i64 Cb ∧ Aside0 (aR.l0 kq Cb Bw Bu (IntKind.u64.wrap (Bw)) CB = some (r1,r2)) ∧ Aside0 (kq ≤ k) ∧ Aside0 (Kd.S k88 88 w' w.heap.size (fun _=>True) Ct CB) ∧ Aside0 (w'.heap[Co]? = some (.cells #[.int .u32 Bw,(.slice Cr Bu.length BP)] 35 (0,0))) ∧ Aside0 (w'.heap[CP]? = some (.cells #[.int .u64 0,(.slice none 0 0)] 39 (0,0))) ∧ Aside0 (w'.heap[CJ]? = some (.cells #[.int .u64 (IntKind.u64.wrap (Bw)),Ct] 39 (0,0))) ∧ Aside0 (Below w.heap.size w w'))
 case atStart=>exact ⟨(0),(([] : List (S88))),(.slice none 0 0),(by first|rfl|(simp;done)|(simp [*];done)),H',⟨Nat.le_refl _⟩,⟨by first|exact Kd.pK _ _ _ _ _|exact Kd.kQ _ _ _ _ _|exact Kd.pU _ _ _ _ _|exact Kd.pG _ _ _ _ _|exact Kd.jy _ _ _ _ _⟩,⟨by (with_reducible repeat (first|apply aj|apply av|apply ak));refine aH ?_ Dj.out _;(with_reducible repeat (first|apply aj|apply av|apply ak));refine aH ?_ Dj.out _;(with_reducible repeat (first|apply aj|apply av|apply ak));exact BU.out⟩,⟨by (with_reducible repeat (first|apply aj|apply av|apply ak));refine aH ?_ Dk.out _;(with_reducible repeat (first|apply aj|apply av|apply ak));refine aH ?_ Dk.out _;(with_reducible repeat (first|apply aj|apply av|apply ak));exact Cq.out⟩,⟨by (with_reducible repeat (first|apply aj|apply av|apply ak));refine aT (cs:=#[.int .u64 (IntKind.u64.wrap (Bw)),.slice none 0 0]) ?_ 1 _ rfl;(with_reducible repeat (first|apply aj|apply av|apply ak));refine aT (cs:=#[.int .u64 0,.slice none 0 0]) ?_ 0 _ rfl;(with_reducible repeat (first|apply aj|apply av|apply ak));exact Cg.out⟩,⟨hb_⟩⟩
 case round =>
  clear H'
  try clear c1
  try clear p2
  try clear c4
  try clear c7
  try clear c8
  try clear DT
  try clear DU
  try clear DZ
  try clear D5
  try clear DV
  try clear DW
  try clear D6
  try clear D7
  obtain ⟨Cb,CB,Ct,rfl,HA,FV,BS,BU,Cq,Cg,HB⟩:=hrel
  cases gk with
  | zero=>exact absurd HA.out (by simp [aR.l0])
  | succ k1 =>
   have H:=HA.out
   clear HA
   simp only [aR.l0] at H
   by_cases c10 : Cb < (Bu.length : Int)
   ·rw [if_pos c10] at H
    have c10b0 : decide (Cb < (Bu.length : Int)) = true:=decide_eq_true c10
    clear c10
    by_cases c11 : 0 ≤ Cb
    ·rw [if_pos c11] at H
     have c11b0 : decide (0 ≤ Cb) = true:=decide_eq_true c11
     clear c11
     obtain ⟨F9,Fj⟩ : ∃ y_ : List (S89),y_ = (([(⟨(⟨#[109,97,105,110]⟩ : ByteArray),(dX Bu Cb).f2⟩ : S89)] : List (S89))):=⟨_,rfl⟩
     replace H : (if CB.length < 1759218604441 then (aR.l0 k1 (wrap64 (Cb + 1)) Bw Bu (IntKind.u64.wrap (Bw)) (CB ++ [(⟨(dX Bu Cb).f0,(dX Bu Cb).f1,(⟨#[100,101,102,97,117,108,116]⟩ : ByteArray),(dX Bu Cb).f3,30,F9⟩ : S88)])) else (none)) = some (r1,r2):=by first|(rw [Fj];with_reducible exact H)|(have EP:=(Option.bind_some _ _).symm.trans H;rw [Fj];with_reducible exact EP)|(have EP:=(Option.bind_some _ _).symm.trans H;with_reducible exact EP)|with_reducible exact H|(rw [Fj];exact H)|exact H
     have Ir:=Aside0.mk Fj
     clear Fj
     by_cases c12 : CB.length < 1759218604441
     ·rw [if_pos c12] at H
      have JC:=Aside0.mk c12
      clear c12
      obtain ⟨Ia,Fp⟩ : ∃ y_ : List (S88),y_ = (CB ++ [(⟨(dX Bu Cb).f0,(dX Bu Cb).f1,(⟨#[100,101,102,97,117,108,116]⟩ : ByteArray),(dX Bu Cb).f3,30,F9⟩ : S88)]):=⟨_,rfl⟩
      replace H : (aR.l0 k1 (wrap64 (Cb + 1)) Bw Bu (IntKind.u64.wrap (Bw)) Ia) = some (r1,r2):=by first|(rw [Fp];with_reducible exact H)|(have EP:=(Option.bind_some _ _).symm.trans H;rw [Fp];with_reducible exact EP)|(have EP:=(Option.bind_some _ _).symm.trans H;with_reducible exact EP)|with_reducible exact H|(rw [Fp];exact H)|exact H
      have JD:=Aside0.mk Fp
      clear Fp
      have H':=Aside0.mk H
      clear H
      have Oh:=El.out
      have Oi:=Em.out
      have Oj:=Dj.out
      have Ol:=En.out
      have Lj : wr.cell? ⟨Co,0,none⟩ = some (.int .u32 Bw):=(ah BU.out 0).trans rfl
      have Ll : wr.cell? ⟨Co,1,none⟩ = some (.slice Cr Bu.length BP):=(ah BU.out 1).trans rfl
      have Lm:=ay BU.out 0
      have Lp:=ay BU.out 1
      have IG : 0 ≤ (Cb : Int):=of_decide_eq_true (by first|(with_reducible assumption)|assumption)
      have II : Cb < (Bu.length : Int):=of_decide_eq_true (by first|(with_reducible assumption)|assumption)
      obtain ⟨Fq,e227,E5,E8,E9,Fa⟩:=zA Fb.out Cb IG II
      cases e227
      replace E5:=(HB.out.cell (World.block_lt_of_cell? w _ E5)).trans E5
      replace E8:=(HB.out.cell (World.block_lt_of_cell? w _ E8)).trans E8
      replace E9:=(HB.out.cell (World.block_lt_of_cell? w _ E9)).trans E9
      replace Fa:=(HB.out.cell (World.block_lt_of_cell? w _ Fa)).trans Fa
      replace IG:=eq_true IG
      replace II:=eq_true II
      go_wp2_with (first|((with_reducible refine dz (N:=5) rfl ?_);refine dJ ?hg (N:=5) ?hd (cs:=#[.string (⟨#[]⟩ : ByteArray),.string (⟨#[]⟩ : ByteArray),.string (⟨#[]⟩ : ByteArray),.int .u8 0]) (t:=85) ?hr ?_;(case hd=>rfl);(case hg=>rfl);(case hr=>first|(go_simp;done)|(go_simp;rfl));intro C9 hg w16 hbox hb;have CX:=Aside0.mk (Kd.dK (by (with_reducible repeat (first|apply Kd.bP|apply Kd.bQ|apply Kd.cB));exact BS.out) hb);have CY:=Aside0.mk (aI (g:=Co) (o:=.cells #[.int .u32 Bw,.slice (some Fq) Bu.length BP] 35 (0,0)) (bk_ BU.out) hb);have CZ:=Aside0.mk (aI (g:=CP) (o:=.cells #[.int .u64 0,.slice none 0 0] 39 (0,0)) (bk_ Cq.out) hb);have C8:=Aside0.mk (aI (g:=CJ) (o:=.cells #[.int .u64 (IntKind.u64.wrap (Bw)),Ct] 39 (0,0)) (bk_ Cg.out) hb);have Dl:=Aside0.mk (aN hb_ hb);have Dm:=Aside0.mk (hbox);have Dp:=Aside0.mk ((by rw [hg];exact (aU hb_) : w.heap.size ≤ C9));have Es:=Aside0.mk ((by rw [hg];exact (aU hb_) : w.heap.size ≤ C9));have Et:=Aside0.mk ((by rw [hg];exact Nat.ne_of_lt (bE (g:=Co) (o:=.cells #[.int .u32 Bw,.slice (some Fq) Bu.length BP] 35 (0,0)) (bk_ BU.out)) : Co ≠ C9));have EI:=Aside0.mk ((by rw [hg];exact Nat.ne_of_gt (bE (g:=Co) (o:=.cells #[.int .u32 Bw,.slice (some Fq) Bu.length BP] 35 (0,0)) (bk_ BU.out)) : C9 ≠ Co));have DJ:=Aside0.mk ((by rw [hg];exact Nat.ne_of_lt (bE (g:=CP) (o:=.cells #[.int .u64 0,.slice none 0 0] 39 (0,0)) (bk_ Cq.out)) : CP ≠ C9));have DK:=Aside0.mk ((by rw [hg];exact Nat.ne_of_gt (bE (g:=CP) (o:=.cells #[.int .u64 0,.slice none 0 0] 39 (0,0)) (bk_ Cq.out)) : C9 ≠ CP));have DL:=Aside0.mk ((by rw [hg];exact Nat.ne_of_lt (bE (g:=CJ) (o:=.cells #[.int .u64 (IntKind.u64.wrap (Bw)),Ct] 39 (0,0)) (bk_ Cg.out)) : CJ ≠ C9));have DN:=Aside0.mk ((by rw [hg];exact Nat.ne_of_gt (bE (g:=CJ) (o:=.cells #[.int .u64 (IntKind.u64.wrap (Bw)),Ct] 39 (0,0)) (bk_ Cg.out)) : C9 ≠ CJ));clear BS;clear BU;clear Cq;clear Cg;clear HB;have BS:=CX;have BU:=CY;have Cq:=CZ;have Cg:=C8;have HB:=Dl;have Db:=Dm;have Om:=Dp;have Oo:=Es;have Dv:=Et;have Ga:=EI;have Dw:=DJ;have Gb:=DK;have Dx:=DL;have Gc:=DN;clear CX CY CZ C8 Dl Dm Dp Es Et EI DJ DK DL DN;clear hb hbox hg;have Ii:=Ga.out;have Ij:=Dv.out;have Jb:=Gb.out;have Jc:=Dw.out;have Oq:=Gc.out;have Ot:=Dx.out;have Lr : w16.cell? ⟨C9,0,none⟩ = some (.string (⟨#[]⟩ : ByteArray)):=(ah Db.out 0).trans rfl;have Ls : w16.cell? ⟨C9,1,none⟩ = some (.string (⟨#[]⟩ : ByteArray)):=(ah Db.out 1).trans rfl;have Lu : w16.cell? ⟨C9,2,none⟩ = some (.string (⟨#[]⟩ : ByteArray)):=(ah Db.out 2).trans rfl;have Lv : w16.cell? ⟨C9,3,none⟩ = some (.int .u8 0):=(ah Db.out 3).trans rfl;have Lx:=ay Db.out 0;have LA:=ay Db.out 1;have LD:=ay Db.out 2;have LG:=ay Db.out 3;have Ik:=Eo.out;have Il:=Dk.out;have Gn : w16.cell? ⟨CJ,0,none⟩ = some (.int .u64 (IntKind.u64.wrap (Bw))):=(ah Cg.out 0).trans rfl;have Gp : w16.cell? ⟨CJ,1,none⟩ = some (Ct):=(ah Cg.out 1).trans rfl;have Gq:=ay Cg.out 0;have Gr:=ay Cg.out 1)|((with_reducible refine dz (N:=33) rfl ?_);refine Kd.qM k89 _ 89 ?hg (N:=33) ?hd (xs:=([(⟨(⟨#[109,97,105,110]⟩ : ByteArray),(dX Bu Cb).f2⟩ : S89)] : List (S89))) (inner:=[.string (⟨#[109,97,105,110]⟩ : ByteArray),.string ((dX Bu Cb).f2)]) (ok:=fun _=>True) (okp:=fun _=>True) ?hr ?hp (fun _ hk=>hk) trivial (Below.refl _ _) (Nat.le_refl _) (by simp) ?_;(case hd=>rfl);(case hg=>rfl);(case hr=>first|(go_simp;done)|(go_simp;rfl));(case hp=>exact (dW.c2 (show Kd.M k89 _ _ _ (⟨(⟨#[109,97,105,110]⟩ : ByteArray),(dX Bu Cb).f2⟩ : S89) [.string (⟨#[109,97,105,110]⟩ : ByteArray),.string ((dX Bu Cb).f2)] from (tN _ _ _ (⟨(⟨#[109,97,105,110]⟩ : ByteArray),(dX Bu Cb).f2⟩ : S89) )) (dW.none _ _)));intro OI Me Gd hb hg_ hnew_;clear hg_ hnew_;(first|rw [← Ir.out] at Gd|(simp only [Int.reduceToNat] at Gd;rw [← Ir.out] at Gd));have CX:=Aside0.mk (Kd.jB (by (with_reducible repeat (first|apply Kd.bP|apply Kd.bQ|apply Kd.cB));exact (Kd.iB (Kd.fJ (p:=⟨C9,3,none⟩) (Kd.fJ (p:=⟨C9,2,none⟩) (Kd.fJ (p:=⟨C9,1,none⟩) (Kd.fJ (p:=⟨C9,0,none⟩) (Kd.iW BS.out Db.out (by decide)) (fun _ hk=>hk.2) (.string ((dX Bu Cb).f0))) (fun _ hk=>hk.2) (.string ((dX Bu Cb).f1))) (fun _ hk=>hk.2) (.string ((dX Bu Cb).f2))) (fun _ hk=>hk.2) (.int .u8 ((dX Bu Cb).f3))) (fun _ h_=>h_.1))) (Kd.jc Gd) hb);have CY:=Aside0.mk (Kd.jr Gd (aU hb_));have CZ:=Aside0.mk (aI (g:=Co) (o:=.cells #[.int .u32 Bw,.slice (some Fq) Bu.length BP] 35 (0,0)) (by (with_reducible repeat (first|apply aj|apply av|apply ak));refine aH ?_ Dv.out _;(with_reducible repeat (first|apply aj|apply av|apply ak));refine aH ?_ Dv.out _;(with_reducible repeat (first|apply aj|apply av|apply ak));refine aH ?_ Dv.out _;(with_reducible repeat (first|apply aj|apply av|apply ak));refine aH ?_ Dv.out _;(with_reducible repeat (first|apply aj|apply av|apply ak));exact BU.out) hb);have C8:=Aside0.mk (aI (g:=CP) (o:=.cells #[.int .u64 0,.slice none 0 0] 39 (0,0)) (by (with_reducible repeat (first|apply aj|apply av|apply ak));refine aH ?_ Dw.out _;(with_reducible repeat (first|apply aj|apply av|apply ak));refine aH ?_ Dw.out _;(with_reducible repeat (first|apply aj|apply av|apply ak));refine aH ?_ Dw.out _;(with_reducible repeat (first|apply aj|apply av|apply ak));refine aH ?_ Dw.out _;(with_reducible repeat (first|apply aj|apply av|apply ak));exact Cq.out) hb);have Dl:=Aside0.mk (aI (g:=CJ) (o:=.cells #[.int .u64 (IntKind.u64.wrap (Bw)),Ct] 39 (0,0)) (by (with_reducible repeat (first|apply aj|apply av|apply ak));refine aH ?_ Dx.out _;(with_reducible repeat (first|apply aj|apply av|apply ak));refine aH ?_ Dx.out _;(with_reducible repeat (first|apply aj|apply av|apply ak));refine aH ?_ Dx.out _;(with_reducible repeat (first|apply aj|apply av|apply ak));refine aH ?_ Dx.out _;(with_reducible repeat (first|apply aj|apply av|apply ak));exact Cg.out) hb);have Dm:=Aside0.mk (aI (g:=C9) (o:=.cells #[.string ((dX Bu Cb).f0),.string ((dX Bu Cb).f1),.string ((dX Bu Cb).f2),.int .u8 ((dX Bu Cb).f3)] 85 (0,0)) (by (with_reducible repeat (first|apply aj|apply av|apply ak));refine aT (cs:=#[.string ((dX Bu Cb).f0),.string ((dX Bu Cb).f1),.string ((dX Bu Cb).f2),.int .u8 0]) ?_ 3 _ rfl;(with_reducible repeat (first|apply aj|apply av|apply ak));refine aT (cs:=#[.string ((dX Bu Cb).f0),.string ((dX Bu Cb).f1),.string (⟨#[]⟩ : ByteArray),.int .u8 0]) ?_ 2 _ rfl;(with_reducible repeat (first|apply aj|apply av|apply ak));refine aT (cs:=#[.string ((dX Bu Cb).f0),.string (⟨#[]⟩ : ByteArray),.string (⟨#[]⟩ : ByteArray),.int .u8 0]) ?_ 1 _ rfl;(with_reducible repeat (first|apply aj|apply av|apply ak));refine aT (cs:=#[.string (⟨#[]⟩ : ByteArray),.string (⟨#[]⟩ : ByteArray),.string (⟨#[]⟩ : ByteArray),.int .u8 0]) ?_ 0 _ rfl;(with_reducible repeat (first|apply aj|apply av|apply ak));exact Db.out) hb);have Dp:=Aside0.mk (aN hb_ hb);clear BS;clear BU;clear Cq;clear Cg;clear Db;clear HB;have BS:=CX;have FU:=CY;have BU:=CZ;have Cq:=C8;have Cg:=Dl;have Db:=Dm;have HB:=Dp;clear CX CY CZ C8 Dl Dm Dp;clear hb Gd;obtain ⟨JE,JF,Mv⟩:=Kd.gH FU.out;subst Mv)|((with_reducible refine je (b:=.append) (xs:=#[.tmp 23,.tmp 35]) rfl ?_);at_builtin;refine Kd.qU k88 (w0:=w) w.heap.size rfl (.tmp 23) (.tmp 35) 37 88 (.agg #[(.string ⟨#[]⟩),(.string ⟨#[]⟩),(.string ⟨#[]⟩),(.int .u8 0),(.int .u16 0),(.slice none 0 0)]) 80 rfl Tryz.underlying37 vO rfl (by decide) (by omega) Ct CB (⟨(dX Bu Cb).f0,(dX Bu Cb).f1,(⟨#[100,101,102,97,117,108,116]⟩ : ByteArray),(dX Bu Cb).f3,30,F9⟩ : S88) [.string ((dX Bu Cb).f0),.string ((dX Bu Cb).f1),.string (⟨#[100,101,102,97,117,108,116]⟩ : ByteArray),.int .u8 ((dX Bu Cb).f3),.int .u16 30,.slice JE F9.length JF] (fun _=>True) (fun k_=>some k_ = (.slice JE F9.length JF : Value).ownBlock) rfl rfl ?aP (fun k_ hk_=>((Kd.fB (ok':=fun k_=>((fun _=>True)) k_ ∧ some k_ ≠ (Ct : Value).ownBlock) (Kd.kP (FU.out) (Kd.nI BS.out) (by decide)) (fun k_ hk=>⟨trivial,hk.2⟩))).1 k_ hk_.symm) ?aF ?aO ?aB ?aS ?aL ?_;(case aP=>exact tO _ _ _ (⟨(dX Bu Cb).f0,(dX Bu Cb).f1,(⟨#[100,101,102,97,117,108,116]⟩ : ByteArray),(dX Bu Cb).f3,30,F9⟩ : S88) (Kd.fB (Kd.qx rfl (Kd.fB (ok':=fun k_=>((fun _=>True)) k_ ∧ some k_ ≠ (Ct : Value).ownBlock) (Kd.kP (FU.out) (Kd.nI BS.out) (by decide)) (fun k_ hk=>⟨trivial,hk.2⟩))) (fun _ h_=>h_)));(case aB=>exact hb_);(case aF=>exact (fun _ _=>trivial));(case aO=>exact (by (with_reducible repeat (first|apply Kd.bP|apply Kd.bQ|apply Kd.cB));exact Kd.iB BS.out (fun k_ hk=>⟨trivial,fun e_=>hk.2 e_⟩)));(case aS=>exact (aU hb_));(case aL=>have:=JC.out;omega);intro v233 Ou ho hb hg hat;rw [← JD.out] at ho;have CX:=Aside0.mk (dU (g:=Co) (o:=.cells #[.int .u32 Bw,.slice (some Fq) Bu.length BP] 35 (0,0)) (bk_ BU.out) hg (Kd.mJ BS.out BU.out (by decide)));have CY:=Aside0.mk (dU (g:=CP) (o:=.cells #[.int .u64 0,.slice none 0 0] 39 (0,0)) (bk_ Cq.out) hg (Kd.mJ BS.out Cq.out (by decide)));have CZ:=Aside0.mk (dU (g:=CJ) (o:=.cells #[.int .u64 (IntKind.u64.wrap (Bw)),Ct] 39 (0,0)) (bk_ Cg.out) hg (Kd.mJ BS.out Cg.out (by decide)));have C8:=Aside0.mk (dU (g:=C9) (o:=.cells #[.string ((dX Bu Cb).f0),.string ((dX Bu Cb).f1),.string ((dX Bu Cb).f2),.int .u8 ((dX Bu Cb).f3)] 85 (0,0)) (bk_ Db.out) hg (Kd.mJ BS.out Db.out (by decide)));have Dl:=Aside0.mk (hb);have Dm:=Aside0.mk (ho);clear BU;clear Cq;clear Cg;clear Db;clear HB;clear BS;clear FU;have BU:=CX;have Cq:=CY;have Cg:=CZ;have Db:=C8;have HB:=Dl;have Iu:=Dm;clear CX CY CZ C8 Dl Dm;clear ho hb hg hat;obtain ⟨JG,JH,Mw⟩:=Kd.iL Iu.out;subst Mw;have Gs : Ou.cell? ⟨CJ,0,none⟩ = some (.int .u64 (IntKind.u64.wrap (Bw))):=(ah Cg.out 0).trans rfl;have Gt : Ou.cell? ⟨CJ,1,none⟩ = some (Ct):=(ah Cg.out 1).trans rfl;have Gu:=ay Cg.out 0;have Gv:=ay Cg.out 1))
      go_roundg k1
      case measure=>have:=FV.out;omega
      case rel=>exact ⟨(wrap64 (Cb + 1)),(Ia),(.slice JG Ia.length JH),(by first|rfl|(simp;done)|(simp [*];done)),H',⟨by have:=FV.out;omega⟩,⟨by (with_reducible repeat (first|apply Kd.bP|apply Kd.bQ|apply Kd.cB));exact Kd.iB (Kd.fJ (p:=⟨CJ,1,none⟩) (Kd.iW Iu.out Cg.out (by decide)) (fun _ hk=>hk.2) (.slice JG Ia.length JH)) (fun _ hk=>trivial)⟩,⟨by (with_reducible repeat (first|apply aj|apply av|apply ak));refine aH ?_ Dj.out _;(with_reducible repeat (first|apply aj|apply av|apply ak));exact BU.out⟩,⟨by (with_reducible repeat (first|apply aj|apply av|apply ak));refine aH ?_ Dk.out _;(with_reducible repeat (first|apply aj|apply av|apply ak));exact Cq.out⟩,⟨by (with_reducible repeat (first|apply aj|apply av|apply ak));refine aT (cs:=#[.int .u64 (IntKind.u64.wrap (Bw)),Ct]) ?_ 1 _ rfl;(with_reducible repeat (first|apply aj|apply av|apply ak));exact Cg.out⟩,⟨hb_⟩⟩
     ·rw [if_neg c12] at H
      exact absurd H (by simp)
    ·rw [if_neg c11] at H
     exact absurd H (by simp)
   ·rw [if_neg c10] at H
    have c10b0 : decide (Cb < (Bu.length : Int)) = false:=decide_eq_false c10
    clear c10
    simp only [Option.some.injEq,Prod.mk.injEq] at H
    obtain ⟨rfl,rfl⟩:=H
    have Jh:=El.out
    have Ji:=Em.out
    have Ov:=Dj.out
    have Ow:=En.out
    have LJ : wr.cell? ⟨Co,0,none⟩ = some (.int .u32 Bw):=(ah BU.out 0).trans rfl
    have LK : wr.cell? ⟨Co,1,none⟩ = some (.slice Cr Bu.length BP):=(ah BU.out 1).trans rfl
    have LP:=ay BU.out 0
    have LQ:=ay BU.out 1
    have Jt:=Eo.out
    have Ju:=Dk.out
    have LU : wr.cell? ⟨CJ,0,none⟩ = some (.int .u64 (IntKind.u64.wrap (Bw))):=(ah Cg.out 0).trans rfl
    have LV : wr.cell? ⟨CJ,1,none⟩ = some (Ct):=(ah Cg.out 1).trans rfl
    have LW:=ay Cg.out 0
    have LY:=ay Cg.out 1
    have LZ : wr.cell? ⟨CP,0,none⟩ = some (.int .u64 0):=(ah Cq.out 0).trans rfl
    have L6 : wr.cell? ⟨CP,1,none⟩ = some (.slice none 0 0):=(ah Cq.out 1).trans rfl
    have L8:=ay Cq.out 0
    have L9:=ay Cq.out 1
    obtain ⟨JI,JJ,Mx⟩:=Kd.iL BS.out
    subst Mx
    go_wp2
    refine bodyPost_ret (results_cell_row rfl _ _ CP 39 #[.int .u64 (IntKind.u64.wrap (Bw)),.slice JI CB.length JJ] (0,0) _ rfl (by (with_reducible repeat (first|apply aj|apply av|apply ak));refine aT (cs:=#[.int .u64 (IntKind.u64.wrap (Bw)),.slice none 0 0]) ?_ 1 _ rfl;(with_reducible repeat (first|apply aj|apply av|apply ak));refine aT (cs:=#[.int .u64 0,.slice none 0 0]) ?_ 0 _ rfl;(with_reducible repeat (first|apply aj|apply av|apply ak));exact Cq.out) Tryz.underlying39 rfl (by kernel_rfl)) rfl ?_
    exact ⟨_,by first|rfl|(simp [bB,bC] <;> rfl)|(simp [*,bB,bC] <;> rfl),by (with_reducible repeat (first|apply Kd.bP|apply Kd.bQ|apply Kd.cB));exact Kd.iB (Kd.fJ (p:=⟨CP,1,none⟩) (Kd.fJ (p:=⟨CP,0,none⟩) (Kd.iW BS.out Cq.out (by decide)) (fun _ hk=>hk.2) (.int .u64 (IntKind.u64.wrap (Bw)))) (fun _ hk=>hk.2) (.slice JI CB.length JJ)) (fun _ hk=>trivial),hb_⟩
def bN.l0 : Nat → List ByteArray → List ByteArray → Int → Option (Bool)
 | 0,_,_,_=>none
 | k + 1,x0,x1,x5=>if x5 < (x0.length : Int) then (if 0 ≤ x5 then (if x5 < (x1.length : Int) then (if (kN ByteArray.empty x0 x5).toList = (kN ByteArray.empty x1 x5).toList then (bN.l0 k x0 x1 (wrap64 (x5 + 1))) else (some false)) else (none)) else (none)) else (some true)
def bN.f (k : Nat) (l0 : List ByteArray) (l1 : List ByteArray) : Option (Bool):=if (l0.length : Int) = (l1.length : Int) then (bN.l0 k l0 l1 0) else (some false)
theorem bN.eB : ∀ k,(∀ y0 y1 y2,LeO (bN.l0 k y0 y1 y2) (bN.l0 (k + 1) y0 y1 y2))
 | 0=>fun _ _ _ r h=>by simp [bN.l0] at h
 | k + 1=>by
  have Eu:=bN.eB k
  ·intro y0 y1 y2
   unfold bN.l0
   repeat' first
   | (with_reducible exact Eu _ _ _)
   | (with_reducible exact LeO.refl _)
   | (with_reducible exact LeO.none _)
   | (with_reducible refine LeO.ite ?_ ?_)
   | (with_reducible refine LeO.bind ?_ (fun _=>?_))
   | exact Eu _ _ _
   | exact LeO.none _
   | refine LeO.ite ?_ ?_
   | refine LeO.bind ?_ (fun _=>?_)
theorem bN.mono : ∀ a0 a1 k,LeO (bN.f k a0 a1) (bN.f (k + 1) a0 a1):=by
 intro a0 a1 k
 have Eu:=bN.eB k
 unfold bN.f
 repeat' first
   | (with_reducible exact Eu _ _ _)
   | (with_reducible exact LeO.refl _)
   | (with_reducible exact LeO.none _)
   | (with_reducible refine LeO.ite ?_ ?_)
   | (with_reducible refine LeO.bind ?_ (fun _=>?_))
   | exact Eu _ _ _
   | exact LeO.none _
   | refine LeO.ite ?_ ?_
   | refine LeO.bind ?_ (fun _=>?_)
set_option maxHeartbeats 8000000 in
set_option maxRecDepth 100000 in
theorem bN.calls (k : Nat) (A0 : Option Addr) (c0 : Nat) (l0 : List ByteArray) (A1 : Option Addr) (c1 : Nat) (l1 : List ByteArray) (r : Bool) (w : World) (hr0 : Kd.C Kd.string w A0 l0.length l0) (hc0 : l0.length ≤ c0) (hr1 : Kd.C Kd.string w A1 l1.length l1) (hc1 : l1.length ≤ c1) (h : bN.f k l0 l1 = some r) :
  Calls Tryz.prog 54 #[.slice A0 l0.length c0,.slice A1 l1.length c1] w fun e w'=>e = .returned (.bool r) ∧ Drawn0 w w':=by
 have Ox:=Aside0.mk hr0
 have OO:=Aside0.mk hc0
 clear hr0 hc0
 have HR1:=Aside0.mk hr1
 have OP:=Aside0.mk hc1
 clear hr1 hc1
 have H : (if (l0.length : Int) = (l1.length : Int) then (bN.l0 k l0 l1 0) else (some false)) = some r:=h
 clear h
 by_cases c3 : (l0.length : Int) = (l1.length : Int)
 ·rw [if_pos c3] at H
  have c3b0 : ((l0.length : Int) == (l1.length : Int)) = true:=beq_iff_eq.mpr c3
  have c3b1 : ((l0.length : Int) != (l1.length : Int)) = false:=bne_eq_false_iff_eq.mpr c3
  have c3b2 : (l0.length == l1.length) = true:=by first|simpa using c3|(simp at c3 ⊢;omega)
  clear c3
  have H':=Aside0.mk H
  clear H
  go_enter Tryz.func54,Tryz.ntmps54
  go_wp2
  repeat (go_quiet (fail);try go_wp2)
  go_loopg [5] k (fun kq v5 w'=>∃ (CQ : Int),v5 = .int .i64 CQ ∧ Aside0 (bN.l0 kq l0 l1 CQ = some r) ∧ Aside0 (kq ≤ k) ∧ Drawn0 w w')
  case atStart=>exact ⟨(0),(by first|rfl|(simp;done)|(simp [*];done)),H',⟨Nat.le_refl _⟩,by repeat (first|exact Drawn0.refl _|apply Drawn0.step)⟩
  case round =>
   clear H'
   try clear c1
   try clear p2
   try clear c3
   try clear c3b0
   try clear c3b1
   try clear c3b2
   obtain ⟨CQ,rfl,HA,FV,⟨m1,rfl⟩⟩:=hrel
   cases gk with
   | zero=>exact absurd HA.out (by simp [bN.l0])
   | succ k1 =>
    have H:=HA.out
    clear HA
    simp only [bN.l0] at H
    by_cases c4 : CQ < (l0.length : Int)
    ·rw [if_pos c4] at H
     have c4b0 : decide (CQ < (l0.length : Int)) = true:=decide_eq_true c4
     clear c4
     by_cases c5 : 0 ≤ CQ
     ·rw [if_pos c5] at H
      have c5b0 : decide (0 ≤ CQ) = true:=decide_eq_true c5
      clear c5
      by_cases c6 : CQ < (l1.length : Int)
      ·rw [if_pos c6] at H
       have c6b0 : decide (CQ < (l1.length : Int)) = true:=decide_eq_true c6
       clear c6
       by_cases c7 : (kN ByteArray.empty l0 CQ).toList = (kN ByteArray.empty l1 CQ).toList
       ·rw [if_pos c7] at H
        have c7b0 : ((kN ByteArray.empty l0 CQ).toList == (kN ByteArray.empty l1 CQ).toList) = true:=beq_iff_eq.mpr c7
        have c7b1 : ((kN ByteArray.empty l0 CQ).toList != (kN ByteArray.empty l1 CQ).toList) = false:=bne_eq_false_iff_eq.mpr c7
        clear c7
        have H':=Aside0.mk H
        clear H
        have Fu : 0 ≤ (CQ : Int):=of_decide_eq_true (by first|(with_reducible assumption)|assumption)
        have Fv : CQ < (l0.length : Int):=of_decide_eq_true (by first|(with_reducible assumption)|assumption)
        obtain ⟨JK,IJ,Ib⟩:=Kd.kY Ox.out CQ Fu Fv
        cases IJ
        replace Fu:=eq_true Fu
        replace Fv:=eq_true Fv
        have Fw : 0 ≤ (CQ : Int):=of_decide_eq_true (by first|(with_reducible assumption)|assumption)
        have Fx : CQ < (l1.length : Int):=of_decide_eq_true (by first|(with_reducible assumption)|assumption)
        obtain ⟨JL,IK,Ic⟩:=Kd.kY HR1.out CQ Fw Fx
        cases IK
        replace Fw:=eq_true Fw
        replace Fx:=eq_true Fx
        go_wp2
        repeat (go_quiet (fail);try go_wp2)
        go_roundg k1
        case measure=>have:=FV.out;omega
        case rel=>exact ⟨(wrap64 (CQ + 1)),(by first|rfl|(simp;done)|(simp [*];done)),H',⟨by have:=FV.out;omega⟩,by repeat (first|exact Drawn0.refl _|apply Drawn0.step)⟩
       ·rw [if_neg c7] at H
        have c7b0 : ((kN ByteArray.empty l0 CQ).toList == (kN ByteArray.empty l1 CQ).toList) = false:=beq_eq_false_iff_ne.mpr c7
        have c7b1 : ((kN ByteArray.empty l0 CQ).toList != (kN ByteArray.empty l1 CQ).toList) = true:=bne_iff_ne.mpr c7
        obtain rfl:=Option.some.inj H
        have Fu : 0 ≤ (CQ : Int):=of_decide_eq_true (by first|(with_reducible assumption)|assumption)
        have Fv : CQ < (l0.length : Int):=of_decide_eq_true (by first|(with_reducible assumption)|assumption)
        obtain ⟨JK,IJ,Ib⟩:=Kd.kY Ox.out CQ Fu Fv
        cases IJ
        replace Fu:=eq_true Fu
        replace Fv:=eq_true Fv
        have Fw : 0 ≤ (CQ : Int):=of_decide_eq_true (by first|(with_reducible assumption)|assumption)
        have Fx : CQ < (l1.length : Int):=of_decide_eq_true (by first|(with_reducible assumption)|assumption)
        obtain ⟨JL,IK,Ic⟩:=Kd.kY HR1.out CQ Fw Fx
        cases IK
        replace Fw:=eq_true Fw
        replace Fx:=eq_true Fx
        go_wp2
        repeat (go_quiet (fail);try go_wp2)
        go_ret
        exact ⟨by first|rfl|(simp;done)|(simp [*];done),by repeat (first|exact Drawn0.refl _|apply Drawn0.step)⟩
      ·rw [if_neg c6] at H
       exact absurd H (by simp)
     ·rw [if_neg c5] at H
      exact absurd H (by simp)
    ·rw [if_neg c4] at H
     have c4b0 : decide (CQ < (l0.length : Int)) = false:=decide_eq_false c4
     clear c4
     obtain rfl:=Option.some.inj H
     go_wp2
     repeat (go_quiet (fail);try go_wp2)
     go_ret
     exact ⟨by first|rfl|(simp;done)|(simp [*];done),by repeat (first|exact Drawn0.refl _|apply Drawn0.step)⟩
 ·rw [if_neg c3] at H
  have c3b0 : ((l0.length : Int) == (l1.length : Int)) = false:=beq_eq_false_iff_ne.mpr c3
  have c3b1 : ((l0.length : Int) != (l1.length : Int)) = true:=bne_iff_ne.mpr c3
  have c3b2 : (l0.length == l1.length) = false:=by first|simpa using c3|(simp at c3 ⊢;omega)
  obtain rfl:=Option.some.inj H
  go_enter Tryz.func54,Tryz.ntmps54
  go_wp2
  repeat (go_quiet (fail);try go_wp2)
  go_ret
  exact ⟨by first|rfl|(simp;done)|(simp [*];done),by repeat (first|exact Drawn0.refl _|apply Drawn0.step)⟩
end Go.Proofs.YtpncpefppifgdaaGreatDoor.GUt
