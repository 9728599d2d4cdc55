/- Written by this session's own program (wip/gen.py) out of the translation: plain Lean functions of the Go functions, and proofs that the calls come to their answers. No conditions beside those in the statements. -/
import Derived.Test.YtpncpefppifgdaaGreatDoorCp
import Derived.Test.YtpncpefppifgdaaGreatDoorGUtx0
namespace Go.Proofs.YtpncpefppifgdaaGreatDoor.GUt
open Go.RowKit Go.Proofs.YtpncpefppifgdaaGreatDoorW.PrintWords Go.Proofs.YtpncpefppifgdaaGreatDoorW.PrintLast Go.Proofs.YtpncpefppifgdaaGreatDoorW.PrintMore
attribute [local go_sem] fZ gq gM gN fM fO gu gD
set_option linter.unusedVariables false
set_option linter.unusedSimpArgs false
mutual
def aD.l0 : Nat → Int → Int → List (S88) → Int → List (S96) → Option (Int × (List (S96)))
 | 0,_,_,_,_,_=>none
 | k + 1,x4,Db,Cc,CF,Cw=>if x4 < (Cc.length : Int) then (if 0 ≤ x4 then (aD.l1 k x4 0 Db Cc CF Cw ((aQ Cc x4).f0) ((aQ Cc x4).f1) ((aQ Cc x4).f2) ((aQ Cc x4).f3) ((aQ Cc x4).f4) ((aQ Cc x4).f5) ((aQ Cc x4).f1) ((aQ Cc x4).f2) (wrap64 ((aQ Cc x4).f3)) (wrap64 ((aQ Cc x4).f4)) false ([] : List (S106))) else (none)) else (some (CF,Cw))
def aD.l1 : Nat → Int → Int → Int → List (S88) → Int → List (S96) → ByteArray → ByteArray → ByteArray → Int → Int → List (S89) → ByteArray → ByteArray → Int → Int → Bool → List (S106) → Option (Int × (List (S96)))
 | 0,_,_,_,_,_,_,_,_,_,_,_,_,_,_,_,_,_,_=>none
 | k + 1,x4,x7,Db,Cc,CF,Cw,Dy,Eb,Ec,Ed,Ee,Dc,Dz,DC,DF,DI,DJ,Dv=>if x7 < (Dc.length : Int) then (if 0 ≤ x7 then (if Dv.length < 1172812402961 then (aD.l1 k x4 (wrap64 (x7 + 1)) Db Cc CF Cw Dy Eb Ec Ed Ee Dc Dz DC DF DI DJ (Dv ++ [(⟨(gJ Dc x7).f0,(gJ Dc x7).f1,([] : List ByteArray),([] : List (S121)),100,64,([] : List (S123))⟩ : S106)])) else (none)) else (none)) else (if Cw.length < 1466015503701 then (aD.l0 k (wrap64 (x4 + 1)) Db Cc CF (Cw ++ [(⟨Dy,(⟨Dz,DC,DF,DI,DJ,Dv⟩ : S94)⟩ : S96)])) else (none))
end
def aD.f (k : Nat) (BO : Int) (Bu : List (S88)) : Option (Int × (List (S96))):=aD.l0 k 0 BO Bu BO ([] : List (S96))
theorem aD.eB : ∀ k,(∀ y0 y1 y2 y3 y4,LeO (aD.l0 k y0 y1 y2 y3 y4) (aD.l0 (k + 1) y0 y1 y2 y3 y4)) ∧ (∀ y0 y1 y2 y3 y4 y5 y6 y7 y8 y9 Hu Hw Hy y13 Hz H6 H7 H8,LeO (aD.l1 k y0 y1 y2 y3 y4 y5 y6 y7 y8 y9 Hu Hw Hy y13 Hz H6 H7 H8) (aD.l1 (k + 1) y0 y1 y2 y3 y4 y5 y6 y7 y8 y9 Hu Hw Hy y13 Hz H6 H7 H8))
 | 0=>⟨fun _ _ _ _ _ r h=>by simp [aD.l0] at h,fun _ _ _ _ _ _ _ _ _ _ _ _ _ _ _ _ _ _ r h=>by simp [aD.l1] at h⟩
 | k + 1=>by
  obtain ⟨EY,ih1⟩:=aD.eB k
  refine ⟨?_,?_⟩
  ·intro y0 y1 y2 y3 y4
   unfold aD.l0
   repeat' first
   | (with_reducible exact EY _ _ _ _ _)
   | (with_reducible exact ih1 _ _ _ _ _ _ _ _ _ _ _ _ _ _ _ _ _ _)
   | (with_reducible exact LeO.refl _)
   | (with_reducible exact LeO.none _)
   | (with_reducible refine LeO.ite ?_ ?_)
   | (with_reducible refine LeO.bind ?_ (fun _=>?_))
   | exact EY _ _ _ _ _
   | exact ih1 _ _ _ _ _ _ _ _ _ _ _ _ _ _ _ _ _ _
   | exact LeO.none _
   | refine LeO.ite ?_ ?_
   | refine LeO.bind ?_ (fun _=>?_)
  ·intro y0 y1 y2 y3 y4 y5 y6 y7 y8 y9 Hu Hw Hy y13 Hz H6 H7 H8
   unfold aD.l1
   repeat' first
   | (with_reducible exact EY _ _ _ _ _)
   | (with_reducible exact ih1 _ _ _ _ _ _ _ _ _ _ _ _ _ _ _ _ _ _)
   | (with_reducible exact LeO.refl _)
   | (with_reducible exact LeO.none _)
   | (with_reducible refine LeO.ite ?_ ?_)
   | (with_reducible refine LeO.bind ?_ (fun _=>?_))
   | exact EY _ _ _ _ _
   | exact ih1 _ _ _ _ _ _ _ _ _ _ _ _ _ _ _ _ _ _
   | exact LeO.none _
   | refine LeO.ite ?_ ?_
   | refine LeO.bind ?_ (fun _=>?_)
theorem aD.mono : ∀ a0 a1 k,LeO (aD.f k a0 a1) (aD.f (k + 1) a0 a1):=by
 intro a0 a1 k
 obtain ⟨EY,ih1⟩:=aD.eB k
 unfold aD.f
 repeat' first
   | (with_reducible exact EY _ _ _ _ _)
   | (with_reducible exact ih1 _ _ _ _ _ _ _ _ _ _ _ _ _ _ _ _ _ _)
   | (with_reducible exact LeO.refl _)
   | (with_reducible exact LeO.none _)
   | (with_reducible refine LeO.ite ?_ ?_)
   | (with_reducible refine LeO.bind ?_ (fun _=>?_))
   | exact EY _ _ _ _ _
   | exact ih1 _ _ _ _ _ _ _ _ _ _ _ _ _ _ _ _ _ _
   | exact LeO.none _
   | refine LeO.ite ?_ ?_
   | refine LeO.bind ?_ (fun _=>?_)
def aD.T10 : Bool × List (List Nat × List Nat):=(true,[([],[]),([0],[0]),([],[]),([2],[2]),([],[]),([3,4],[3,4]),([5],[5]),([6],[6]),([],[]),([8],[8]),([],[]),([9,10],[9,10]),([11],[11]),([12],[12]),([7,13],[7,13]),([14],[14]),([1,15],[1,15]),([0,1,2,3,4,5,6,7,8,9,10,11,12,13,14,15,16],[]),([17,16,16,0,1,2,3,4,5,6,7,8,9,10,11,12,13,14,15,16],[16,17])])
def aD.B10 : List Nat:=[0,1,0,4,0,28,60,124,0,256,0,1792,3840,7936,16380,32764,65535,131071,262143]
theorem aD.qZ : gX .any (opsOf Tryz.f17 10) = aD.T10:=by kernel_rfl
theorem aD.oJ : fU aD.T10.2 aD.B10 = true:=by kernel_rfl
set_option maxHeartbeats 8000000 in
set_option maxRecDepth 100000 in
theorem aD.calls (k : Nat) (BO : Int) (CS : Option Addr) (Cn : Nat) (Bu : List (S88)) (r1 : Int) (r2 : List (S96)) (w : World) (ER : Kd.C k88 w CS Bu.length Bu) (ES : Bu.length ≤ Cn) (h : aD.f k BO Bu = some (r1,r2)) :
  Calls Tryz.prog 17 #[.agg #[.int .u64 BO,.slice CS Bu.length Cn]] w fun e w'=>∃ Ic : Value,e = .returned (.agg #[.int .u64 r1,Ic]) ∧ Kd.R k96 96 w' w.heap.size (fun _=>True) Ic r2 ∧ Below w.heap.size w w':=by
 have JF:=Tryz.underlying39
 have JG:=Tryz.underlying47
 have JH:=Tryz.underlying88
 have JI:=Tryz.underlying94
 have Ie:=Tryz.underlying106
 have JJ:=Tryz.underlying96
 have Fp:=Aside0.mk ER
 have Ig:=Aside0.mk ES
 clear ER ES
 have HB:=Aside0.mk (Below.refl w.heap.size w)
 have H : (aD.l0 k 0 BO Bu BO ([] : List (S96))) = some (r1,r2):=h
 clear h
 have H':=Aside0.mk H
 clear H
 go_enter Tryz.func17,Tryz.ntmps17
 go_wp2_with (first|((with_reducible refine dz (N:=1) rfl ?_);refine dJ ?hg (N:=1) ?hd (cs:=#[.int .u64 BO,.slice CS Bu.length Cn]) (t:=39) ?hr ?_;(case hd=>rfl);(case hg=>rfl);(case hr=>first|(go_simp;done)|(go_simp;rfl));intro BR hg w2 hbox hb;have Dm:=Aside0.mk (aN hb_ hb);have Dn:=Aside0.mk (hbox);have Dp:=Aside0.mk ((by rw [hg];exact (aU hb_) : w.heap.size ≤ BR));have Dq:=Aside0.mk ((by rw [hg];exact (aU hb_) : w.heap.size ≤ BR));clear HB;have HB:=Dm;have BI:=Dn;have Ih:=Dp;have Ii:=Dq;clear Dm Dn Dp Dq;clear hb hbox hg)|((with_reducible refine dz (N:=2) rfl ?_);refine dJ ?hg (N:=2) ?hd (cs:=#[.int .u64 0,.slice none 0 0]) (t:=47) ?hr ?_;(case hd=>rfl);(case hg=>rfl);(case hr=>first|(go_simp;done)|(go_simp;rfl));intro BU hg w3 hbox hb;have Dm:=Aside0.mk (aI (g:=BR) (o:=.cells #[.int .u64 BO,.slice CS Bu.length Cn] 39 (0,0)) (bk_ BI.out) hb);have Dn:=Aside0.mk (aN hb_ hb);have Dp:=Aside0.mk (hbox);have Dq:=Aside0.mk ((by rw [hg];exact (aU hb_) : w.heap.size ≤ BU));have Dr:=Aside0.mk ((by rw [hg];exact (aU hb_) : w.heap.size ≤ BU));have Dt:=Aside0.mk ((by rw [hg];exact Nat.ne_of_lt (bE (g:=BR) (o:=.cells #[.int .u64 BO,.slice CS Bu.length Cn] 39 (0,0)) (bk_ BI.out)) : BR ≠ BU));have Du:=Aside0.mk ((by rw [hg];exact Nat.ne_of_gt (bE (g:=BR) (o:=.cells #[.int .u64 BO,.slice CS Bu.length Cn] 39 (0,0)) (bk_ BI.out)) : BU ≠ BR));clear BI;clear HB;have BI:=Dm;have HB:=Dn;have BN:=Dp;have Ij:=Dq;have Ik:=Dr;have CU:=Dt;have CV:=Du;clear Dm Dn Dp Dq Dr Dt Du;clear hb hbox hg;have JK:=CU.out;have JL:=CV.out;have DT : w3.cell? ⟨BR,0,none⟩ = some (.int .u64 BO):=(ah BI.out 0).trans rfl;have DU : w3.cell? ⟨BR,1,none⟩ = some (.slice CS Bu.length Cn):=(ah BI.out 1).trans rfl;have DV:=ay BI.out 0;have DW:=ay BI.out 1)|((with_reducible refine dz (N:=3) rfl ?_);refine dJ ?hg (N:=3) ?hd (cs:=#[.int .u64 0,.slice none 0 0]) (t:=47) ?hr ?_;(case hd=>rfl);(case hg=>rfl);(case hr=>first|(go_simp;done)|(go_simp;rfl));intro BS hg w6 hbox hb;have Dm:=Aside0.mk (aI (g:=BR) (o:=.cells #[.int .u64 BO,.slice CS Bu.length Cn] 39 (0,0)) (bk_ BI.out) hb);have Dn:=Aside0.mk (aI (g:=BU) (o:=.cells #[.int .u64 0,.slice none 0 0] 47 (0,0)) (bk_ BN.out) hb);have Dp:=Aside0.mk (aN hb_ hb);have Dq:=Aside0.mk (hbox);have Dr:=Aside0.mk ((by rw [hg];exact (aU hb_) : w.heap.size ≤ BS));have Dt:=Aside0.mk ((by rw [hg];exact (aU hb_) : w.heap.size ≤ BS));have Du:=Aside0.mk ((by rw [hg];exact Nat.ne_of_lt (bE (g:=BR) (o:=.cells #[.int .u64 BO,.slice CS Bu.length Cn] 39 (0,0)) (bk_ BI.out)) : BR ≠ BS));have DK:=Aside0.mk ((by rw [hg];exact Nat.ne_of_gt (bE (g:=BR) (o:=.cells #[.int .u64 BO,.slice CS Bu.length Cn] 39 (0,0)) (bk_ BI.out)) : BS ≠ BR));have ET:=Aside0.mk ((by rw [hg];exact Nat.ne_of_lt (bE (g:=BU) (o:=.cells #[.int .u64 0,.slice none 0 0] 47 (0,0)) (bk_ BN.out)) : BU ≠ BS));have EU:=Aside0.mk ((by rw [hg];exact Nat.ne_of_gt (bE (g:=BU) (o:=.cells #[.int .u64 0,.slice none 0 0] 47 (0,0)) (bk_ BN.out)) : BS ≠ BU));clear BI;clear BN;clear HB;have BI:=Dm;have BN:=Dn;have HB:=Dp;have BK:=Dq;have Il:=Dr;have Im:=Dt;have Cj:=Du;have Cz:=DK;have Cm:=ET;have CW:=EU;clear Dm Dn Dp Dq Dr Dt Du DK ET EU;clear hb hbox hg;have JM:=Cz.out;have JN:=Cj.out;have JO:=CW.out;have JQ:=Cm.out;have DX : w6.cell? ⟨BS,0,none⟩ = some (.int .u64 0):=(ah BK.out 0).trans rfl;have DY : w6.cell? ⟨BS,1,none⟩ = some (.slice none 0 0):=(ah BK.out 1).trans rfl;have DZ:=ay BK.out 0;have D5:=ay BK.out 1))
 go_loopg [4] k (fun kq v4 w'=>∃ (Bv : Int) (BZ : List (S96)) (BQ : Value),v4 = .int .i64 Bv ∧ Aside0 (aD.l0 kq Bv BO Bu BO BZ = some (r1,r2)) ∧ Aside0 (kq ≤ k) ∧ Aside0 (Kd.R k96 96 w' w.heap.size (fun _=>True) BQ BZ) ∧ Aside0 (w'.heap[BR]? = some (.cells #[.int .u64 BO,(.slice CS Bu.length Cn)] 39 (0,0))) ∧ Aside0 (w'.heap[BU]? = some (.cells #[.int .u64 0,(.slice none 0 0)] 47 (0,0))) ∧ Aside0 (w'.heap[BS]? = some (.cells #[.int .u64 BO,BQ] 47 (0,0))) ∧ Aside0 (Below w.heap.size w w'))
 case atStart=>exact ⟨(0),(([] : List (S96))),(.slice none 0 0),(by first|rfl|(simp;done)|(simp [*];done)),H',⟨Nat.le_refl _⟩,⟨by first|exact Kd.jy _ _ _ _ _|exact Kd.kQ _ _ _ _ _|exact Kd.pU _ _ _ _ _|exact Kd.pG _ _ _ _ _|exact Kd.pK _ _ _ _ _⟩,⟨by (with_reducible repeat (first|apply aj|apply av|apply ak));refine aH ?_ Cj.out _;(with_reducible repeat (first|apply aj|apply av|apply ak));refine aH ?_ Cj.out _;(with_reducible repeat (first|apply aj|apply av|apply ak));exact BI.out⟩,⟨by (with_reducible repeat (first|apply aj|apply av|apply ak));refine aH ?_ Cm.out _;(with_reducible repeat (first|apply aj|apply av|apply ak));refine aH ?_ Cm.out _;(with_reducible repeat (first|apply aj|apply av|apply ak));exact BN.out⟩,⟨by (with_reducible repeat (first|apply aj|apply av|apply ak));refine aT (cs:=#[.int .u64 BO,.slice none 0 0]) ?_ 1 _ rfl;(with_reducible repeat (first|apply aj|apply av|apply ak));refine aT (cs:=#[.int .u64 0,.slice none 0 0]) ?_ 0 _ rfl;(with_reducible repeat (first|apply aj|apply av|apply ak));exact BK.out⟩,⟨hb_⟩⟩
 case round =>
  clear H'
  try clear c1
  try clear p2
  try clear c4
  try clear c7
  try clear c8
  try clear DT
  try clear DU
  try clear DX
  try clear DY
  try clear DV
  try clear DW
  try clear DZ
  try clear D5
  obtain ⟨Bv,BZ,BQ,rfl,HA,FM,Bz,BI,BN,BK,HB⟩:=hrel
  cases gk with
  | zero=>exact absurd HA.out (by simp [aD.l0])
  | succ k1 =>
   have H:=HA.out
   clear HA
   simp only [aD.l0] at H
   by_cases c10 : Bv < (Bu.length : Int)
   ·rw [if_pos c10] at H
    have c10b0 : decide (Bv < (Bu.length : Int)) = true:=decide_eq_true c10
    clear c10
    by_cases c11 : 0 ≤ Bv
    ·rw [if_pos c11] at H
     have c11b0 : decide (0 ≤ Bv) = true:=decide_eq_true c11
     clear c11
     have H':=Aside0.mk H
     clear H
     have Io:=CU.out
     have Ip:=CV.out
     have Iq:=Cj.out
     have Ir:=Cz.out
     have Ef : wr.cell? ⟨BR,0,none⟩ = some (.int .u64 BO):=(ah BI.out 0).trans rfl
     have Eh : wr.cell? ⟨BR,1,none⟩ = some (.slice CS Bu.length Cn):=(ah BI.out 1).trans rfl
     have Ei:=ay BI.out 0
     have Ej:=ay BI.out 1
     have El : 0 ≤ (Bv : Int):=of_decide_eq_true (by first|(with_reducible assumption)|assumption)
     have Em : Bv < (Bu.length : Int):=of_decide_eq_true (by first|(with_reducible assumption)|assumption)
     obtain ⟨CG,Cv,Cu,e247,Df,Dh,Di,Dj,Dk,Dl,DL,DN⟩:=sj Fp.out Bv El Em
     cases e247
     replace Df:=(HB.out.cell (World.block_lt_of_cell? w _ Df)).trans Df
     replace Dh:=(HB.out.cell (World.block_lt_of_cell? w _ Dh)).trans Dh
     replace Di:=(HB.out.cell (World.block_lt_of_cell? w _ Di)).trans Di
     replace Dj:=(HB.out.cell (World.block_lt_of_cell? w _ Dj)).trans Dj
     replace Dk:=(HB.out.cell (World.block_lt_of_cell? w _ Dk)).trans Dk
     replace Dl:=(HB.out.cell (World.block_lt_of_cell? w _ Dl)).trans Dl
     have DR:=Aside0.mk DN
     have FN:=Aside0.mk DL
     clear DN DL
     replace El:=eq_true El
     replace Em:=eq_true Em
     go_wp2_with (first|((with_reducible refine dz (N:=5) rfl ?_);refine dJ ?hg (N:=5) ?hd (cs:=#[.string (⟨#[]⟩ : ByteArray),.string (⟨#[]⟩ : ByteArray),.string (⟨#[]⟩ : ByteArray),.int .u8 0,.int .u16 0,.slice none 0 0]) (t:=88) ?hr ?_;(case hd=>rfl);(case hg=>rfl);(case hr=>first|(go_simp;done)|(go_simp;rfl));intro BJ hg Fg hbox hb;have Dm:=Aside0.mk (Kd.eG (kr_ Bz.out) hb);have Dn:=Aside0.mk (aI (g:=BR) (o:=.cells #[.int .u64 BO,.slice (some CG) Bu.length Cn] 39 (0,0)) (bk_ BI.out) hb);have Dp:=Aside0.mk (aI (g:=BU) (o:=.cells #[.int .u64 0,.slice none 0 0] 47 (0,0)) (bk_ BN.out) hb);have Dq:=Aside0.mk (aI (g:=BS) (o:=.cells #[.int .u64 BO,BQ] 47 (0,0)) (bk_ BK.out) hb);have Dr:=Aside0.mk (aN hb_ hb);have Dt:=Aside0.mk (hbox);have Du:=Aside0.mk ((by rw [hg];exact (aU hb_) : w.heap.size ≤ BJ));have DK:=Aside0.mk ((by rw [hg];exact (aU hb_) : w.heap.size ≤ BJ));have ET:=Aside0.mk ((by rw [hg];exact Nat.ne_of_lt (bE (g:=BR) (o:=.cells #[.int .u64 BO,.slice (some CG) Bu.length Cn] 39 (0,0)) (bk_ BI.out)) : BR ≠ BJ));have EU:=Aside0.mk ((by rw [hg];exact Nat.ne_of_gt (bE (g:=BR) (o:=.cells #[.int .u64 BO,.slice (some CG) Bu.length Cn] 39 (0,0)) (bk_ BI.out)) : BJ ≠ BR));have D6:=Aside0.mk ((by rw [hg];exact Nat.ne_of_lt (bE (g:=BU) (o:=.cells #[.int .u64 0,.slice none 0 0] 47 (0,0)) (bk_ BN.out)) : BU ≠ BJ));have D7:=Aside0.mk ((by rw [hg];exact Nat.ne_of_gt (bE (g:=BU) (o:=.cells #[.int .u64 0,.slice none 0 0] 47 (0,0)) (bk_ BN.out)) : BJ ≠ BU));have D8:=Aside0.mk ((by rw [hg];exact Nat.ne_of_lt (bE (g:=BS) (o:=.cells #[.int .u64 BO,BQ] 47 (0,0)) (bk_ BK.out)) : BS ≠ BJ));have D9:=Aside0.mk ((by rw [hg];exact Nat.ne_of_gt (bE (g:=BS) (o:=.cells #[.int .u64 BO,BQ] 47 (0,0)) (bk_ BK.out)) : BJ ≠ BS));clear Bz;clear BI;clear BN;clear BK;clear HB;have Bz:=Dm;have BI:=Dn;have BN:=Dp;have BK:=Dq;have HB:=Dr;have Bw:=Dt;have Iu:=Du;have Iw:=DK;have BF:=ET;have CX:=EU;have BG:=D6;have CY:=D7;have BH:=D8;have CZ:=D9;clear Dm Dn Dp Dq Dr Dt Du DK ET EU D6 D7 D8 D9;clear hb hbox hg;have Iy:=CX.out;have Iz:=BF.out;have IB:=CY.out;have IC:=BG.out;have IE:=CZ.out;have IG:=BH.out;have En : Fg.cell? ⟨BJ,0,none⟩ = some (.string (⟨#[]⟩ : ByteArray)):=(ah Bw.out 0).trans rfl;have Eo : Fg.cell? ⟨BJ,1,none⟩ = some (.string (⟨#[]⟩ : ByteArray)):=(ah Bw.out 1).trans rfl;have Ep : Fg.cell? ⟨BJ,2,none⟩ = some (.string (⟨#[]⟩ : ByteArray)):=(ah Bw.out 2).trans rfl;have Er : Fg.cell? ⟨BJ,3,none⟩ = some (.int .u8 0):=(ah Bw.out 3).trans rfl;have Es : Fg.cell? ⟨BJ,4,none⟩ = some (.int .u16 0):=(ah Bw.out 4).trans rfl;have Et : Fg.cell? ⟨BJ,5,none⟩ = some (.slice none 0 0):=(ah Bw.out 5).trans rfl;have Eu:=ay Bw.out 0;have Ew:=ay Bw.out 1;have Ey:=ay Bw.out 2;have Ez:=ay Bw.out 3;have EA:=ay Bw.out 4;have EB:=ay Bw.out 5)|((with_reducible refine dz (N:=6) rfl ?_);refine dJ ?hg (N:=6) ?hd (cs:=#[.string (⟨#[]⟩ : ByteArray),.string (⟨#[]⟩ : ByteArray),.int .i64 0,.int .i64 0,.bool false,.slice none 0 0]) (t:=94) ?hr ?_;(case hd=>rfl);(case hg=>rfl);(case hr=>first|(go_simp;done)|(go_simp;rfl));intro BL hg Fh hbox hb;have Dm:=Aside0.mk (Kd.eG (by (with_reducible repeat (first|apply Kd.ig|apply Kd.iq|apply Kd.iG));exact (Kd.fB (Kd.gL (p:=⟨BJ,5,none⟩) (Kd.gL (p:=⟨BJ,4,none⟩) (Kd.gL (p:=⟨BJ,3,none⟩) (Kd.gL (p:=⟨BJ,2,none⟩) (Kd.gL (p:=⟨BJ,1,none⟩) (Kd.gL (p:=⟨BJ,0,none⟩) (Kd.gZ Bz.out Bw.out (by decide)) (fun _ hk=>hk.2) (.string ((aQ Bu Bv).f0))) (fun _ hk=>hk.2) (.string ((aQ Bu Bv).f1))) (fun _ hk=>hk.2) (.string ((aQ Bu Bv).f2))) (fun _ hk=>hk.2) (.int .u8 ((aQ Bu Bv).f3))) (fun _ hk=>hk.2) (.int .u16 ((aQ Bu Bv).f4))) (fun _ hk=>hk.2) (.slice Cv ((aQ Bu Bv).f5).length Cu)) (fun _ h_=>h_.1))) hb);have Dn:=Aside0.mk (aI (g:=BR) (o:=.cells #[.int .u64 BO,.slice (some CG) Bu.length Cn] 39 (0,0)) (by (with_reducible repeat (first|apply aj|apply av|apply ak));refine aH ?_ BF.out _;(with_reducible repeat (first|apply aj|apply av|apply ak));refine aH ?_ BF.out _;(with_reducible repeat (first|apply aj|apply av|apply ak));refine aH ?_ BF.out _;(with_reducible repeat (first|apply aj|apply av|apply ak));refine aH ?_ BF.out _;(with_reducible repeat (first|apply aj|apply av|apply ak));refine aH ?_ BF.out _;(with_reducible repeat (first|apply aj|apply av|apply ak));refine aH ?_ BF.out _;(with_reducible repeat (first|apply aj|apply av|apply ak));exact BI.out) hb);have Dp:=Aside0.mk (aI (g:=BU) (o:=.cells #[.int .u64 0,.slice none 0 0] 47 (0,0)) (by (with_reducible repeat (first|apply aj|apply av|apply ak));refine aH ?_ BG.out _;(with_reducible repeat (first|apply aj|apply av|apply ak));refine aH ?_ BG.out _;(with_reducible repeat (first|apply aj|apply av|apply ak));refine aH ?_ BG.out _;(with_reducible repeat (first|apply aj|apply av|apply ak));refine aH ?_ BG.out _;(with_reducible repeat (first|apply aj|apply av|apply ak));refine aH ?_ BG.out _;(with_reducible repeat (first|apply aj|apply av|apply ak));refine aH ?_ BG.out _;(with_reducible repeat (first|apply aj|apply av|apply ak));exact BN.out) hb);have Dq:=Aside0.mk (aI (g:=BS) (o:=.cells #[.int .u64 BO,BQ] 47 (0,0)) (by (with_reducible repeat (first|apply aj|apply av|apply ak));refine aH ?_ BH.out _;(with_reducible repeat (first|apply aj|apply av|apply ak));refine aH ?_ BH.out _;(with_reducible repeat (first|apply aj|apply av|apply ak));refine aH ?_ BH.out _;(with_reducible repeat (first|apply aj|apply av|apply ak));refine aH ?_ BH.out _;(with_reducible repeat (first|apply aj|apply av|apply ak));refine aH ?_ BH.out _;(with_reducible repeat (first|apply aj|apply av|apply ak));refine aH ?_ BH.out _;(with_reducible repeat (first|apply aj|apply av|apply ak));exact BK.out) hb);have Dr:=Aside0.mk (aI (g:=BJ) (o:=.cells #[.string ((aQ Bu Bv).f0),.string ((aQ Bu Bv).f1),.string ((aQ Bu Bv).f2),.int .u8 ((aQ Bu Bv).f3),.int .u16 ((aQ Bu Bv).f4),.slice Cv ((aQ Bu Bv).f5).length Cu] 88 (0,0)) (by (with_reducible repeat (first|apply aj|apply av|apply ak));refine aT (cs:=#[.string ((aQ Bu Bv).f0),.string ((aQ Bu Bv).f1),.string ((aQ Bu Bv).f2),.int .u8 ((aQ Bu Bv).f3),.int .u16 ((aQ Bu Bv).f4),.slice none 0 0]) ?_ 5 _ rfl;(with_reducible repeat (first|apply aj|apply av|apply ak));refine aT (cs:=#[.string ((aQ Bu Bv).f0),.string ((aQ Bu Bv).f1),.string ((aQ Bu Bv).f2),.int .u8 ((aQ Bu Bv).f3),.int .u16 0,.slice none 0 0]) ?_ 4 _ rfl;(with_reducible repeat (first|apply aj|apply av|apply ak));refine aT (cs:=#[.string ((aQ Bu Bv).f0),.string ((aQ Bu Bv).f1),.string ((aQ Bu Bv).f2),.int .u8 0,.int .u16 0,.slice none 0 0]) ?_ 3 _ rfl;(with_reducible repeat (first|apply aj|apply av|apply ak));refine aT (cs:=#[.string ((aQ Bu Bv).f0),.string ((aQ Bu Bv).f1),.string (⟨#[]⟩ : ByteArray),.int .u8 0,.int .u16 0,.slice none 0 0]) ?_ 2 _ rfl;(with_reducible repeat (first|apply aj|apply av|apply ak));refine aT (cs:=#[.string ((aQ Bu Bv).f0),.string (⟨#[]⟩ : ByteArray),.string (⟨#[]⟩ : ByteArray),.int .u8 0,.int .u16 0,.slice none 0 0]) ?_ 1 _ rfl;(with_reducible repeat (first|apply aj|apply av|apply ak));refine aT (cs:=#[.string (⟨#[]⟩ : ByteArray),.string (⟨#[]⟩ : ByteArray),.string (⟨#[]⟩ : ByteArray),.int .u8 0,.int .u16 0,.slice none 0 0]) ?_ 0 _ rfl;(with_reducible repeat (first|apply aj|apply av|apply ak));exact Bw.out) hb);have Dt:=Aside0.mk (aN hb_ hb);have Du:=Aside0.mk (hbox);have DK:=Aside0.mk ((by rw [hg];exact (aU hb_) : w.heap.size ≤ BL));have ET:=Aside0.mk ((by rw [hg];exact (aU hb_) : w.heap.size ≤ BL));have EU:=Aside0.mk ((by rw [hg];exact Nat.ne_of_lt (bE (g:=BR) (o:=.cells #[.int .u64 BO,.slice (some CG) Bu.length Cn] 39 (0,0)) (by (with_reducible repeat (first|apply aj|apply av|apply ak));refine aH ?_ BF.out _;(with_reducible repeat (first|apply aj|apply av|apply ak));refine aH ?_ BF.out _;(with_reducible repeat (first|apply aj|apply av|apply ak));refine aH ?_ BF.out _;(with_reducible repeat (first|apply aj|apply av|apply ak));refine aH ?_ BF.out _;(with_reducible repeat (first|apply aj|apply av|apply ak));refine aH ?_ BF.out _;(with_reducible repeat (first|apply aj|apply av|apply ak));refine aH ?_ BF.out _;(with_reducible repeat (first|apply aj|apply av|apply ak));exact BI.out)) : BR ≠ BL));have D6:=Aside0.mk ((by rw [hg];exact Nat.ne_of_gt (bE (g:=BR) (o:=.cells #[.int .u64 BO,.slice (some CG) Bu.length Cn] 39 (0,0)) (by (with_reducible repeat (first|apply aj|apply av|apply ak));refine aH ?_ BF.out _;(with_reducible repeat (first|apply aj|apply av|apply ak));refine aH ?_ BF.out _;(with_reducible repeat (first|apply aj|apply av|apply ak));refine aH ?_ BF.out _;(with_reducible repeat (first|apply aj|apply av|apply ak));refine aH ?_ BF.out _;(with_reducible repeat (first|apply aj|apply av|apply ak));refine aH ?_ BF.out _;(with_reducible repeat (first|apply aj|apply av|apply ak));refine aH ?_ BF.out _;(with_reducible repeat (first|apply aj|apply av|apply ak));exact BI.out)) : BL ≠ BR));have D7:=Aside0.mk ((by rw [hg];exact Nat.ne_of_lt (bE (g:=BU) (o:=.cells #[.int .u64 0,.slice none 0 0] 47 (0,0)) (by (with_reducible repeat (first|apply aj|apply av|apply ak));refine aH ?_ BG.out _;(with_reducible repeat (first|apply aj|apply av|apply ak));refine aH ?_ BG.out _;(with_reducible repeat (first|apply aj|apply av|apply ak));refine aH ?_ BG.out _;(with_reducible repeat (first|apply aj|apply av|apply ak));refine aH ?_ BG.out _;(with_reducible repeat (first|apply aj|apply av|apply ak));refine aH ?_ BG.out _;(with_reducible repeat (first|apply aj|apply av|apply ak));refine aH ?_ BG.out _;(with_reducible repeat (first|apply aj|apply av|apply ak));exact BN.out)) : BU ≠ BL));have D8:=Aside0.mk ((by rw [hg];exact Nat.ne_of_gt (bE (g:=BU) (o:=.cells #[.int .u64 0,.slice none 0 0] 47 (0,0)) (by (with_reducible repeat (first|apply aj|apply av|apply ak));refine aH ?_ BG.out _;(with_reducible repeat (first|apply aj|apply av|apply ak));refine aH ?_ BG.out _;(with_reducible repeat (first|apply aj|apply av|apply ak));refine aH ?_ BG.out _;(with_reducible repeat (first|apply aj|apply av|apply ak));refine aH ?_ BG.out _;(with_reducible repeat (first|apply aj|apply av|apply ak));refine aH ?_ BG.out _;(with_reducible repeat (first|apply aj|apply av|apply ak));refine aH ?_ BG.out _;(with_reducible repeat (first|apply aj|apply av|apply ak));exact BN.out)) : BL ≠ BU));have D9:=Aside0.mk ((by rw [hg];exact Nat.ne_of_lt (bE (g:=BS) (o:=.cells #[.int .u64 BO,BQ] 47 (0,0)) (by (with_reducible repeat (first|apply aj|apply av|apply ak));refine aH ?_ BH.out _;(with_reducible repeat (first|apply aj|apply av|apply ak));refine aH ?_ BH.out _;(with_reducible repeat (first|apply aj|apply av|apply ak));refine aH ?_ BH.out _;(with_reducible repeat (first|apply aj|apply av|apply ak));refine aH ?_ BH.out _;(with_reducible repeat (first|apply aj|apply av|apply ak));refine aH ?_ BH.out _;(with_reducible repeat (first|apply aj|apply av|apply ak));refine aH ?_ BH.out _;(with_reducible repeat (first|apply aj|apply av|apply ak));exact BK.out)) : BS ≠ BL));have Fq:=Aside0.mk ((by rw [hg];exact Nat.ne_of_gt (bE (g:=BS) (o:=.cells #[.int .u64 BO,BQ] 47 (0,0)) (by (with_reducible repeat (first|apply aj|apply av|apply ak));refine aH ?_ BH.out _;(with_reducible repeat (first|apply aj|apply av|apply ak));refine aH ?_ BH.out _;(with_reducible repeat (first|apply aj|apply av|apply ak));refine aH ?_ BH.out _;(with_reducible repeat (first|apply aj|apply av|apply ak));refine aH ?_ BH.out _;(with_reducible repeat (first|apply aj|apply av|apply ak));refine aH ?_ BH.out _;(with_reducible repeat (first|apply aj|apply av|apply ak));refine aH ?_ BH.out _;(with_reducible repeat (first|apply aj|apply av|apply ak));exact BK.out)) : BL ≠ BS));have Fu:=Aside0.mk ((by rw [hg];exact Nat.ne_of_lt (bE (g:=BJ) (o:=.cells #[.string ((aQ Bu Bv).f0),.string ((aQ Bu Bv).f1),.string ((aQ Bu Bv).f2),.int .u8 ((aQ Bu Bv).f3),.int .u16 ((aQ Bu Bv).f4),.slice Cv ((aQ Bu Bv).f5).length Cu] 88 (0,0)) (by (with_reducible repeat (first|apply aj|apply av|apply ak));refine aT (cs:=#[.string ((aQ Bu Bv).f0),.string ((aQ Bu Bv).f1),.string ((aQ Bu Bv).f2),.int .u8 ((aQ Bu Bv).f3),.int .u16 ((aQ Bu Bv).f4),.slice none 0 0]) ?_ 5 _ rfl;(with_reducible repeat (first|apply aj|apply av|apply ak));refine aT (cs:=#[.string ((aQ Bu Bv).f0),.string ((aQ Bu Bv).f1),.string ((aQ Bu Bv).f2),.int .u8 ((aQ Bu Bv).f3),.int .u16 0,.slice none 0 0]) ?_ 4 _ rfl;(with_reducible repeat (first|apply aj|apply av|apply ak));refine aT (cs:=#[.string ((aQ Bu Bv).f0),.string ((aQ Bu Bv).f1),.string ((aQ Bu Bv).f2),.int .u8 0,.int .u16 0,.slice none 0 0]) ?_ 3 _ rfl;(with_reducible repeat (first|apply aj|apply av|apply ak));refine aT (cs:=#[.string ((aQ Bu Bv).f0),.string ((aQ Bu Bv).f1),.string (⟨#[]⟩ : ByteArray),.int .u8 0,.int .u16 0,.slice none 0 0]) ?_ 2 _ rfl;(with_reducible repeat (first|apply aj|apply av|apply ak));refine aT (cs:=#[.string ((aQ Bu Bv).f0),.string (⟨#[]⟩ : ByteArray),.string (⟨#[]⟩ : ByteArray),.int .u8 0,.int .u16 0,.slice none 0 0]) ?_ 1 _ rfl;(with_reducible repeat (first|apply aj|apply av|apply ak));refine aT (cs:=#[.string (⟨#[]⟩ : ByteArray),.string (⟨#[]⟩ : ByteArray),.string (⟨#[]⟩ : ByteArray),.int .u8 0,.int .u16 0,.slice none 0 0]) ?_ 0 _ rfl;(with_reducible repeat (first|apply aj|apply av|apply ak));exact Bw.out)) : BJ ≠ BL));have Fv:=Aside0.mk ((by rw [hg];exact Nat.ne_of_gt (bE (g:=BJ) (o:=.cells #[.string ((aQ Bu Bv).f0),.string ((aQ Bu Bv).f1),.string ((aQ Bu Bv).f2),.int .u8 ((aQ Bu Bv).f3),.int .u16 ((aQ Bu Bv).f4),.slice Cv ((aQ Bu Bv).f5).length Cu] 88 (0,0)) (by (with_reducible repeat (first|apply aj|apply av|apply ak));refine aT (cs:=#[.string ((aQ Bu Bv).f0),.string ((aQ Bu Bv).f1),.string ((aQ Bu Bv).f2),.int .u8 ((aQ Bu Bv).f3),.int .u16 ((aQ Bu Bv).f4),.slice none 0 0]) ?_ 5 _ rfl;(with_reducible repeat (first|apply aj|apply av|apply ak));refine aT (cs:=#[.string ((aQ Bu Bv).f0),.string ((aQ Bu Bv).f1),.string ((aQ Bu Bv).f2),.int .u8 ((aQ Bu Bv).f3),.int .u16 0,.slice none 0 0]) ?_ 4 _ rfl;(with_reducible repeat (first|apply aj|apply av|apply ak));refine aT (cs:=#[.string ((aQ Bu Bv).f0),.string ((aQ Bu Bv).f1),.string ((aQ Bu Bv).f2),.int .u8 0,.int .u16 0,.slice none 0 0]) ?_ 3 _ rfl;(with_reducible repeat (first|apply aj|apply av|apply ak));refine aT (cs:=#[.string ((aQ Bu Bv).f0),.string ((aQ Bu Bv).f1),.string (⟨#[]⟩ : ByteArray),.int .u8 0,.int .u16 0,.slice none 0 0]) ?_ 2 _ rfl;(with_reducible repeat (first|apply aj|apply av|apply ak));refine aT (cs:=#[.string ((aQ Bu Bv).f0),.string (⟨#[]⟩ : ByteArray),.string (⟨#[]⟩ : ByteArray),.int .u8 0,.int .u16 0,.slice none 0 0]) ?_ 1 _ rfl;(with_reducible repeat (first|apply aj|apply av|apply ak));refine aT (cs:=#[.string (⟨#[]⟩ : ByteArray),.string (⟨#[]⟩ : ByteArray),.string (⟨#[]⟩ : ByteArray),.int .u8 0,.int .u16 0,.slice none 0 0]) ?_ 0 _ rfl;(with_reducible repeat (first|apply aj|apply av|apply ak));exact Bw.out)) : BL ≠ BJ));clear Bz;clear BI;clear BN;clear BK;clear Bw;clear HB;have Bz:=Dm;have BI:=Dn;have BN:=Dp;have BK:=Dq;have Bw:=Dr;have HB:=Dt;have BD:=Du;have II:=DK;have IJ:=ET;have Ce:=EU;have C8:=D6;have Cg:=D7;have C9:=D8;have Ch:=D9;have Da:=Fq;have Ca:=Fu;have CB:=Fv;clear Dm Dn Dp Dq Dr Dt Du DK ET EU D6 D7 D8 D9 Fq Fu Fv;clear hb hbox hg;have IK:=C8.out;have IL:=Ce.out;have IQ:=C9.out;have IU:=Cg.out;have IV:=Da.out;have IW:=Ch.out;have IX:=CB.out;have IY:=Ca.out;have EC : Fh.cell? ⟨BL,0,none⟩ = some (.string (⟨#[]⟩ : ByteArray)):=(ah BD.out 0).trans rfl;have ED : Fh.cell? ⟨BL,1,none⟩ = some (.string (⟨#[]⟩ : ByteArray)):=(ah BD.out 1).trans rfl;have EF : Fh.cell? ⟨BL,2,none⟩ = some (.int .i64 0):=(ah BD.out 2).trans rfl;have EG : Fh.cell? ⟨BL,3,none⟩ = some (.int .i64 0):=(ah BD.out 3).trans rfl;have EH : Fh.cell? ⟨BL,4,none⟩ = some (.bool false):=(ah BD.out 4).trans rfl;have EI : Fh.cell? ⟨BL,5,none⟩ = some (.slice none 0 0):=(ah BD.out 5).trans rfl;have EJ:=ay BD.out 0;have EK:=ay BD.out 1;have EL:=ay BD.out 2;have EM:=ay BD.out 3;have EN:=ay BD.out 4;have EO:=ay BD.out 5))
     go_loopg [7] k1 (fun kq v7 w'=>∃ (Ci : Int) (Cb : List (S106)) (Ck : Value),v7 = .int .i64 Ci ∧ Aside0 (aD.l1 kq Bv Ci BO Bu BO BZ ((aQ Bu Bv).f0) ((aQ Bu Bv).f1) ((aQ Bu Bv).f2) ((aQ Bu Bv).f3) ((aQ Bu Bv).f4) ((aQ Bu Bv).f5) ((aQ Bu Bv).f1) ((aQ Bu Bv).f2) (wrap64 ((aQ Bu Bv).f3)) (wrap64 ((aQ Bu Bv).f4)) false Cb = some (r1,r2)) ∧ Aside0 (kq ≤ k1) ∧ Aside0 (Kd.R k96 96 w' w.heap.size (fun k_=>some k_ ≠ (Ck : Value).ownBlock) BQ BZ) ∧ Aside0 (Kd.S jH 106 w' w.heap.size (fun _=>True) Ck Cb) ∧ Aside0 (w'.heap[BR]? = some (.cells #[.int .u64 BO,(.slice (some CG) Bu.length Cn)] 39 (0,0))) ∧ Aside0 (w'.heap[BU]? = some (.cells #[.int .u64 0,(.slice none 0 0)] 47 (0,0))) ∧ Aside0 (w'.heap[BS]? = some (.cells #[.int .u64 BO,BQ] 47 (0,0))) ∧ Aside0 (w'.heap[BJ]? = some (.cells #[.string ((aQ Bu Bv).f0),.string ((aQ Bu Bv).f1),.string ((aQ Bu Bv).f2),.int .u8 ((aQ Bu Bv).f3),.int .u16 ((aQ Bu Bv).f4),(.slice Cv ((aQ Bu Bv).f5).length Cu)] 88 (0,0))) ∧ Aside0 (w'.heap[BL]? = some (.cells #[.string ((aQ Bu Bv).f1),.string ((aQ Bu Bv).f2),.int .i64 (wrap64 ((aQ Bu Bv).f3)),.int .i64 (wrap64 ((aQ Bu Bv).f4)),.bool false,Ck] 94 (0,0))) ∧ Aside0 (Below w.heap.size w w'))
     case atStart=>exact ⟨(0),(([] : List (S106))),(.slice none 0 0),(by first|rfl|(simp;done)|(simp [*];done)),H',⟨Nat.le_refl _⟩,⟨by (with_reducible repeat (first|apply Kd.ig|apply Kd.iq|apply Kd.iG));exact Kd.fB (Kd.gL (p:=⟨BL,5,none⟩) (Kd.gL (p:=⟨BL,4,none⟩) (Kd.gL (p:=⟨BL,3,none⟩) (Kd.gL (p:=⟨BL,2,none⟩) (Kd.gL (p:=⟨BL,1,none⟩) (Kd.gL (p:=⟨BL,0,none⟩) (Kd.gZ Bz.out BD.out (by decide)) (fun _ hk=>hk.2) (.string ((aQ Bu Bv).f1))) (fun _ hk=>hk.2) (.string ((aQ Bu Bv).f2))) (fun _ hk=>hk.2) (.int .i64 (wrap64 ((aQ Bu Bv).f3)))) (fun _ hk=>hk.2) (.int .i64 (wrap64 ((aQ Bu Bv).f4)))) (fun _ hk=>hk.2) (.bool false)) (fun _ hk=>hk.2) (.slice none 0 0)) (fun _ hk=>(by simp [Value.ownBlock]))⟩,⟨by first|exact Kd.pK _ _ _ _ _|exact Kd.kQ _ _ _ _ _|exact Kd.pU _ _ _ _ _|exact Kd.pG _ _ _ _ _|exact Kd.jy _ _ _ _ _⟩,⟨by (with_reducible repeat (first|apply aj|apply av|apply ak));refine aH ?_ Ce.out _;(with_reducible repeat (first|apply aj|apply av|apply ak));refine aH ?_ Ce.out _;(with_reducible repeat (first|apply aj|apply av|apply ak));refine aH ?_ Ce.out _;(with_reducible repeat (first|apply aj|apply av|apply ak));refine aH ?_ Ce.out _;(with_reducible repeat (first|apply aj|apply av|apply ak));refine aH ?_ Ce.out _;(with_reducible repeat (first|apply aj|apply av|apply ak));refine aH ?_ Ce.out _;(with_reducible repeat (first|apply aj|apply av|apply ak));exact BI.out⟩,⟨by (with_reducible repeat (first|apply aj|apply av|apply ak));refine aH ?_ Cg.out _;(with_reducible repeat (first|apply aj|apply av|apply ak));refine aH ?_ Cg.out _;(with_reducible repeat (first|apply aj|apply av|apply ak));refine aH ?_ Cg.out _;(with_reducible repeat (first|apply aj|apply av|apply ak));refine aH ?_ Cg.out _;(with_reducible repeat (first|apply aj|apply av|apply ak));refine aH ?_ Cg.out _;(with_reducible repeat (first|apply aj|apply av|apply ak));refine aH ?_ Cg.out _;(with_reducible repeat (first|apply aj|apply av|apply ak));exact BN.out⟩,⟨by (with_reducible repeat (first|apply aj|apply av|apply ak));refine aH ?_ Ch.out _;(with_reducible repeat (first|apply aj|apply av|apply ak));refine aH ?_ Ch.out _;(with_reducible repeat (first|apply aj|apply av|apply ak));refine aH ?_ Ch.out _;(with_reducible repeat (first|apply aj|apply av|apply ak));refine aH ?_ Ch.out _;(with_reducible repeat (first|apply aj|apply av|apply ak));refine aH ?_ Ch.out _;(with_reducible repeat (first|apply aj|apply av|apply ak));refine aH ?_ Ch.out _;(with_reducible repeat (first|apply aj|apply av|apply ak));exact BK.out⟩,⟨by (with_reducible repeat (first|apply aj|apply av|apply ak));refine aH ?_ Ca.out _;(with_reducible repeat (first|apply aj|apply av|apply ak));refine aH ?_ Ca.out _;(with_reducible repeat (first|apply aj|apply av|apply ak));refine aH ?_ Ca.out _;(with_reducible repeat (first|apply aj|apply av|apply ak));refine aH ?_ Ca.out _;(with_reducible repeat (first|apply aj|apply av|apply ak));refine aH ?_ Ca.out _;(with_reducible repeat (first|apply aj|apply av|apply ak));refine aH ?_ Ca.out _;(with_reducible repeat (first|apply aj|apply av|apply ak));exact Bw.out⟩,⟨by (with_reducible repeat (first|apply aj|apply av|apply ak));refine aT (cs:=#[.string ((aQ Bu Bv).f1),.string ((aQ Bu Bv).f2),.int .i64 (wrap64 ((aQ Bu Bv).f3)),.int .i64 (wrap64 ((aQ Bu Bv).f4)),.bool false,.slice none 0 0]) ?_ 5 _ rfl;(with_reducible repeat (first|apply aj|apply av|apply ak));refine aT (cs:=#[.string ((aQ Bu Bv).f1),.string ((aQ Bu Bv).f2),.int .i64 (wrap64 ((aQ Bu Bv).f3)),.int .i64 (wrap64 ((aQ Bu Bv).f4)),.bool false,.slice none 0 0]) ?_ 4 _ rfl;(with_reducible repeat (first|apply aj|apply av|apply ak));refine aT (cs:=#[.string ((aQ Bu Bv).f1),.string ((aQ Bu Bv).f2),.int .i64 (wrap64 ((aQ Bu Bv).f3)),.int .i64 0,.bool false,.slice none 0 0]) ?_ 3 _ rfl;(with_reducible repeat (first|apply aj|apply av|apply ak));refine aT (cs:=#[.string ((aQ Bu Bv).f1),.string ((aQ Bu Bv).f2),.int .i64 0,.int .i64 0,.bool false,.slice none 0 0]) ?_ 2 _ rfl;(with_reducible repeat (first|apply aj|apply av|apply ak));refine aT (cs:=#[.string ((aQ Bu Bv).f1),.string (⟨#[]⟩ : ByteArray),.int .i64 0,.int .i64 0,.bool false,.slice none 0 0]) ?_ 1 _ rfl;(with_reducible repeat (first|apply aj|apply av|apply ak));refine aT (cs:=#[.string (⟨#[]⟩ : ByteArray),.string (⟨#[]⟩ : ByteArray),.int .i64 0,.int .i64 0,.bool false,.slice none 0 0]) ?_ 0 _ rfl;(with_reducible repeat (first|apply aj|apply av|apply ak));exact BD.out⟩,⟨hb_⟩⟩
     case round =>
      clear H'
      try clear c1
      try clear c2
      try clear p2
      try clear q2
      try clear hx2
      try clear c4
      try clear p6
      try clear c7
      try clear c8
      try clear c10
      try clear c10b0
      try clear c11
      try clear c11b0
      try clear c12
      try clear c13
      try clear c16
      try clear c17
      try clear c18
      try clear c21
      try clear J2
      try clear c23
      try clear c24
      try clear J3
      try clear q24
      try clear hx24
      try clear Ef
      try clear Eh
      try clear En
      try clear Eo
      try clear Ep
      try clear Er
      try clear Es
      try clear Et
      try clear EC
      try clear ED
      try clear EF
      try clear EG
      try clear EH
      try clear EI
      try clear DT
      try clear DU
      try clear DX
      try clear DY
      try clear Ei
      try clear Ej
      try clear Eu
      try clear Ew
      try clear Ey
      try clear Ez
      try clear EA
      try clear EB
      try clear EJ
      try clear EK
      try clear EL
      try clear EM
      try clear EN
      try clear EO
      try clear DV
      try clear DW
      try clear DZ
      try clear D5
      try clear Df
      try clear Dh
      try clear Di
      try clear Dj
      try clear Dk
      try clear Dl
      try clear p2
      try clear El
      try clear Em
      obtain ⟨Ci,Cb,Ck,rfl,HA,FP,Bz,BP,BI,BN,BK,Bw,BD,HB⟩:=hrel
      cases gk with
      | zero=>exact absurd HA.out (by simp [aD.l1])
      | succ k2 =>
       have H:=HA.out
       clear HA
       simp only [aD.l1] at H
       by_cases Fj : Ci < (((aQ Bu Bv).f5).length : Int)
       ·rw [if_pos Fj] at H
        have c26b0 : decide (Ci < (((aQ Bu Bv).f5).length : Int)) = true:=decide_eq_true Fj
        clear Fj
        by_cases FQ : 0 ≤ Ci
        ·rw [if_pos FQ] at H
         have c27b0 : decide (0 ≤ Ci) = true:=decide_eq_true FQ
         clear FQ
         by_cases c28 : Cb.length < 1172812402961
         ·rw [if_pos c28] at H
          have Fw:=Aside0.mk c28
          clear c28
          obtain ⟨Ea,Dw⟩ : ∃ y_ : List (S106),y_ = (Cb ++ [(⟨(gJ ((aQ Bu Bv).f5) Ci).f0,(gJ ((aQ Bu Bv).f5) Ci).f1,([] : List ByteArray),([] : List (S121)),100,64,([] : List (S123))⟩ : S106)]):=⟨_,rfl⟩
          replace H : (aD.l1 k2 Bv (wrap64 (Ci + 1)) BO Bu BO BZ ((aQ Bu Bv).f0) ((aQ Bu Bv).f1) ((aQ Bu Bv).f2) ((aQ Bu Bv).f3) ((aQ Bu Bv).f4) ((aQ Bu Bv).f5) ((aQ Bu Bv).f1) ((aQ Bu Bv).f2) (wrap64 ((aQ Bu Bv).f3)) (wrap64 ((aQ Bu Bv).f4)) false Ea) = some (r1,r2):=by first|(rw [Dw];with_reducible exact H)|(have EZ:=(Option.bind_some _ _).symm.trans H;rw [Dw];with_reducible exact EZ)|(have EZ:=(Option.bind_some _ _).symm.trans H;with_reducible exact EZ)|with_reducible exact H|(rw [Dw];exact H)|exact H
          have Fx:=Aside0.mk Dw
          clear Dw
          have H':=Aside0.mk H
          clear H
          have IZ:=CX.out
          have I4:=BF.out
          have I5:=CY.out
          have I6:=BG.out
          have I7:=CZ.out
          have I8:=BH.out
          have I9:=Ca.out
          have Ja:=CB.out
          have FR : wr.cell? ⟨BJ,0,none⟩ = some (.string ((aQ Bu Bv).f0)):=(ah Bw.out 0).trans rfl
          have FT : wr.cell? ⟨BJ,1,none⟩ = some (.string ((aQ Bu Bv).f1)):=(ah Bw.out 1).trans rfl
          have FU : wr.cell? ⟨BJ,2,none⟩ = some (.string ((aQ Bu Bv).f2)):=(ah Bw.out 2).trans rfl
          have FV : wr.cell? ⟨BJ,3,none⟩ = some (.int .u8 ((aQ Bu Bv).f3)):=(ah Bw.out 3).trans rfl
          have FW : wr.cell? ⟨BJ,4,none⟩ = some (.int .u16 ((aQ Bu Bv).f4)):=(ah Bw.out 4).trans rfl
          have FX : wr.cell? ⟨BJ,5,none⟩ = some (.slice Cv ((aQ Bu Bv).f5).length Cu):=(ah Bw.out 5).trans rfl
          have FY:=ay Bw.out 0
          have FZ:=ay Bw.out 1
          have F3:=ay Bw.out 2
          have F4:=ay Bw.out 3
          have F5:=ay Bw.out 4
          have F6:=ay Bw.out 5
          try go_wp2
          have Dm:=Aside0.mk (Kd.iG Bz.out)
          have Dn:=Aside0.mk (Kd.cB BP.out)
          have Dp:=Aside0.mk (av BI.out)
          have Dq:=Aside0.mk (av BN.out)
          have Dr:=Aside0.mk (av BK.out)
          have Dt:=Aside0.mk (av Bw.out)
          have Du:=Aside0.mk (av BD.out)
          have DK:=Aside0.mk (bF HB.out)
          clear Bz
          clear BP
          clear BI
          clear BN
          clear BK
          clear Bw
          clear BD
          clear HB
          have Bz:=Dm
          have BP:=Dn
          have BI:=Dp
          have BN:=Dq
          have BK:=Dr
          have Bw:=Dt
          have BD:=Du
          have HB:=DK
          clear Dm Dn Dp Dq Dr Dt Du DK
          have E5 : 0 ≤ (Ci : Int):=of_decide_eq_true (by first|(with_reducible assumption)|assumption)
          have E8 : Ci < (((aQ Bu Bv).f5).length : Int):=of_decide_eq_true (by first|(with_reducible assumption)|assumption)
          obtain ⟨CJ,e250,CK,CO⟩:=qF DR.out Ci E5 E8
          have Co:=CO
          have Cq:=CK
          cases e250
          replace CK:=(HB.out.cell (World.block_lt_of_cell? w _ CK)).trans CK
          replace CO:=(HB.out.cell (World.block_lt_of_cell? w _ CO)).trans CO
          replace E5:=eq_true E5
          replace E8:=eq_true E8
          have E9 : 0 ≤ (Ci : Int):=of_decide_eq_true (by first|(with_reducible assumption)|assumption)
          have Fa : Ci < (((aQ Bu Bv).f5).length : Int):=of_decide_eq_true (by first|(with_reducible assumption)|assumption)
          obtain ⟨Fy,e251,CP,CQ⟩:=qF DR.out Ci E9 Fa
          have Cr:=CQ
          have Ct:=CP
          obtain rfl : CJ = Fy:=(by injection e251)
          replace CP:=(HB.out.cell (World.block_lt_of_cell? w _ CP)).trans CP
          replace CQ:=(HB.out.cell (World.block_lt_of_cell? w _ CQ)).trans CQ
          replace E9:=eq_true E9
          replace Fa:=eq_true Fa
          refine iE (n:=19) (S:=fun w'=>w'.cell? ⟨BL,0,none⟩ = some (.string ((aQ Bu Bv).f1)) ∧ w'.cell? ⟨BL,1,none⟩ = some (.string ((aQ Bu Bv).f2)) ∧ w'.cell? ⟨BL,2,none⟩ = some (.int .i64 (wrap64 ((aQ Bu Bv).f3))) ∧ w'.cell? ⟨BL,3,none⟩ = some (.int .i64 (wrap64 ((aQ Bu Bv).f4))) ∧ w'.cell? ⟨BL,4,none⟩ = some (.bool false) ∧ w'.cell? ⟨BL,5,none⟩ = some (Ck) ∧ w'.cell? ⟨BJ,0,none⟩ = some (.string ((aQ Bu Bv).f0)) ∧ w'.cell? ⟨BJ,1,none⟩ = some (.string ((aQ Bu Bv).f1)) ∧ w'.cell? ⟨BJ,2,none⟩ = some (.string ((aQ Bu Bv).f2)) ∧ w'.cell? ⟨BJ,3,none⟩ = some (.int .u8 ((aQ Bu Bv).f3)) ∧ w'.cell? ⟨BJ,4,none⟩ = some (.int .u16 ((aQ Bu Bv).f4)) ∧ w'.cell? ⟨BJ,5,none⟩ = some (.slice (some CJ) ((aQ Bu Bv).f5).length Cu) ∧ w'.cell? (CJ.add ((Ci).toNat * 2)) = some (.string ((gJ ((aQ Bu Bv).f5) Ci).f0)) ∧ w'.cell? ⟨(CJ.add ((Ci).toNat * 2)).block,(CJ.add ((Ci).toNat * 2)).off + 1,none⟩ = some (.string ((gJ ((aQ Bu Bv).f5) Ci).f1)) ∧ w'.cell? (CJ.add ((Ci).toNat * 2)) = some (.string ((gJ ((aQ Bu Bv).f5) Ci).f0)) ∧ w'.cell? ⟨(CJ.add ((Ci).toNat * 2)).block,(CJ.add ((Ci).toNat * 2)).off + 1,none⟩ = some (.string ((gJ ((aQ Bu Bv).f5) Ci).f1))) (ds:=[18]) #[O,O,O,O,O,O,O,O,O,O,O,O,O,O,O,O,O,O,O] (by kernel_rfl) rfl rfl ⟨(ah BD.out 0).trans rfl,(ah BD.out 1).trans rfl,(ah BD.out 2).trans rfl,(ah BD.out 3).trans rfl,(ah BD.out 4).trans rfl,(ah BD.out 5).trans rfl,(ah Bw.out 0).trans rfl,(ah Bw.out 1).trans rfl,(ah Bw.out 2).trans rfl,(ah Bw.out 3).trans rfl,(ah Bw.out 4).trans rfl,(ah Bw.out 5).trans rfl,((HB.out.cell (World.block_lt_of_cell? w _ Cq)).trans Cq),((HB.out.cell (World.block_lt_of_cell? w _ Co)).trans Co),((HB.out.cell (World.block_lt_of_cell? w _ Ct)).trans Ct),((HB.out.cell (World.block_lt_of_cell? w _ Cr)).trans Cr)⟩ (fun hHeld=>?_);refine fC aD.qZ aD.oJ (fun HT_ HW_=>?_)
          generalize wr.drew = J4 at Bz BP BI BN BK Bw BD HB CK CO CP CQ hHeld ⊢
          refine pu_ 0 41 #[I,O,O,O,O,O,O,O,O,O,O,O,O,O,O,O,O,O,O] HT_.out ?_
          refine pu_ 2 43 #[I,O,I,O,O,O,O,O,O,O,O,O,O,O,O,O,O,O,O] HT_.out ?_
          refine pu_ 4 45 #[I,O,I,O,I,O,O,O,O,O,O,O,O,O,O,O,O,O,O] HT_.out ?_
          refine pu_ 8 49 #[I,O,I,O,I,O,O,O,I,O,O,O,O,O,O,O,O,O,O] HT_.out ?_
          refine pu_ 10 51 #[I,O,I,O,I,O,O,O,I,O,I,O,O,O,O,O,O,O,O] HT_.out ?_
          refine ta_ 1 42 #[I,I,I,O,I,O,O,O,I,O,I,O,O,O,O,O,O,O,O] HT_.out HW_.out hHeld ?_
          refine ta_ 3 44 #[I,I,I,I,I,O,O,O,I,O,I,O,O,O,O,O,O,O,O] HT_.out HW_.out hHeld ?_
          refine pu_ 5 46 #[I,I,I,I,I,I,O,O,I,O,I,O,O,O,O,O,O,O,O] HT_.out ?_
          refine pu_ 6 47 #[I,I,I,I,I,I,I,O,I,O,I,O,O,O,O,O,O,O,O] HT_.out ?_
          refine ta_ 7 48 #[I,I,I,I,I,I,I,I,I,O,I,O,O,O,O,O,O,O,O] HT_.out HW_.out hHeld ?_
          refine ta_ 9 50 #[I,I,I,I,I,I,I,I,I,I,I,O,O,O,O,O,O,O,O] HT_.out HW_.out hHeld ?_
          refine pu_ 11 52 #[I,I,I,I,I,I,I,I,I,I,I,I,O,O,O,O,O,O,O] HT_.out ?_
          refine pu_ 12 53 #[I,I,I,I,I,I,I,I,I,I,I,I,I,O,O,O,O,O,O] HT_.out ?_
          refine ta_ 13 54 #[I,I,I,I,I,I,I,I,I,I,I,I,I,I,O,O,O,O,O] HT_.out HW_.out hHeld ?_
          refine pu_ 14 55 #[I,I,I,I,I,I,I,I,I,I,I,I,I,I,I,O,O,O,O] HT_.out ?_
          refine fE (i:=15) (N:=some 56) #[I,I,I,I,I,I,I,I,I,I,I,I,I,I,I,I,O,O,O] rfl rfl (dh HT_.out (by kernel_rfl)) (by decide) (fun K hK=>?_)
          refine vC (w1:=?_) (v:=?_) (by rfl) rfl ?_ ?_
          rotate_left 2
          ·go_simp
           constructor
           ·rfl
           ·rfl
          refine hK.out _ _ ⟨(ah (ak BD.out _) 0).trans rfl,(ah (ak BD.out _) 1).trans rfl,(ah (ak BD.out _) 2).trans rfl,(ah (ak BD.out _) 3).trans rfl,(ah (ak BD.out _) 4).trans rfl,(ah (ak BD.out _) 5).trans rfl,(ah (ak Bw.out _) 0).trans rfl,(ah (ak Bw.out _) 1).trans rfl,(ah (ak Bw.out _) 2).trans rfl,(ah (ak Bw.out _) 3).trans rfl,(ah (ak Bw.out _) 4).trans rfl,(ah (ak Bw.out _) 5).trans rfl,(World.cell?_alloc_lt _ _ _ (World.block_lt_of_cell? _ _ (((HB.out.cell (World.block_lt_of_cell? w _ Cq)).trans Cq)))).trans (((HB.out.cell (World.block_lt_of_cell? w _ Cq)).trans Cq)),(World.cell?_alloc_lt _ _ _ (World.block_lt_of_cell? _ _ (((HB.out.cell (World.block_lt_of_cell? w _ Co)).trans Co)))).trans (((HB.out.cell (World.block_lt_of_cell? w _ Co)).trans Co)),(World.cell?_alloc_lt _ _ _ (World.block_lt_of_cell? _ _ (((HB.out.cell (World.block_lt_of_cell? w _ Ct)).trans Ct)))).trans (((HB.out.cell (World.block_lt_of_cell? w _ Ct)).trans Ct)),(World.cell?_alloc_lt _ _ _ (World.block_lt_of_cell? _ _ (((HB.out.cell (World.block_lt_of_cell? w _ Cr)).trans Cr)))).trans (((HB.out.cell (World.block_lt_of_cell? w _ Cr)).trans Cr))⟩ (fun hHeld=>?_)
          clear hK K
          refine dS (a':=?_) ?_ ?_
          rotate_left
          ·show Act.put _ (some 56) _ = _
           simp only [Act.put,List.setIfInBounds_toArray,List.set_cons_zero,List.set_cons_succ,bJ,bK]
           rfl
          refine fE (i:=16) (N:=some 57) #[I,I,I,I,I,I,I,I,I,I,I,I,I,I,I,I,I,O,O] rfl rfl (dh HT_.out (by kernel_rfl)) (by decide) (fun K hK=>?_)
          refine Kd.o9 jH (w0:=w) w.heap.size (by rfl) (.tmp 42) (.tmp 56) 92 106 (.agg #[(.string ⟨#[]⟩),(.string ⟨#[]⟩),(.slice none 0 0),(.slice none 0 0),(.int .i64 0),(.int .i64 0),(.slice none 0 0)]) 120 rfl Tryz.underlying92 tL rfl (by decide) (by omega) Ck Cb (⟨(gJ ((aQ Bu Bv).f5) Ci).f0,(gJ ((aQ Bu Bv).f5) Ci).f1,([] : List ByteArray),([] : List (S121)),100,64,([] : List (S123))⟩ : S106) [.string ((gJ ((aQ Bu Bv).f5) Ci).f0),.string ((gJ ((aQ Bu Bv).f5) Ci).f1),.slice none 0 0,.slice none 0 0,.int .i64 100,.int .i64 64,.slice none 0 0] (fun _=>True) (fun _=>False) rfl rfl ?aP (fun k_ hk_=>hk_.elim) ?aF ?aO ?aB ?aS ?aL ?_
          (case aP=>exact wo _ _ _ (⟨(gJ ((aQ Bu Bv).f5) Ci).f0,(gJ ((aQ Bu Bv).f5) Ci).f1,([] : List ByteArray),([] : List (S121)),100,64,([] : List (S123))⟩ : S106) (Kd.jy _ _ _ _ _) (Kd.jy _ _ _ _ _) (Kd.jy _ _ _ _ _))
          (case aB=>exact hb_)
          (case aF=>exact (fun _ _=>trivial))
          (case aO=>exact (by (with_reducible repeat (first|apply Kd.bP|apply Kd.bQ|apply Kd.cB));exact Kd.iB BP.out (fun k_ hk=>⟨trivial,fun e_=>e_⟩)))
          (case aS=>exact (aU hb_))
          (case aL=>have:=Fw.out;omega)
          intro JR JU ho hb hg hat
          rw [← Fx.out] at ho
          have Dm:=Aside0.mk (Kd.sU (ok:=(fun _=>True)) (by (with_reducible repeat (first|apply Kd.ig|apply Kd.iq|apply Kd.iG));exact Kd.fB Bz.out (fun _ hk=>⟨trivial,hk⟩)) hg hat)
          have Dn:=Aside0.mk (dU (g:=BR) (o:=.cells #[.int .u64 BO,.slice (some CG) Bu.length Cn] 39 (0,0)) (bk_ BI.out) hg (Kd.mJ BP.out BI.out (by decide)))
          have Dp:=Aside0.mk (dU (g:=BU) (o:=.cells #[.int .u64 0,.slice none 0 0] 47 (0,0)) (bk_ BN.out) hg (Kd.mJ BP.out BN.out (by decide)))
          have Dq:=Aside0.mk (dU (g:=BS) (o:=.cells #[.int .u64 BO,BQ] 47 (0,0)) (bk_ BK.out) hg (Kd.mJ BP.out BK.out (by decide)))
          have Dr:=Aside0.mk (dU (g:=BJ) (o:=.cells #[.string ((aQ Bu Bv).f0),.string ((aQ Bu Bv).f1),.string ((aQ Bu Bv).f2),.int .u8 ((aQ Bu Bv).f3),.int .u16 ((aQ Bu Bv).f4),.slice (some CJ) ((aQ Bu Bv).f5).length Cu] 88 (0,0)) (bk_ Bw.out) hg (Kd.mJ BP.out Bw.out (by decide)))
          have Dt:=Aside0.mk (dU (g:=BL) (o:=.cells #[.string ((aQ Bu Bv).f1),.string ((aQ Bu Bv).f2),.int .i64 (wrap64 ((aQ Bu Bv).f3)),.int .i64 (wrap64 ((aQ Bu Bv).f4)),.bool false,Ck] 94 (0,0)) (bk_ BD.out) hg (Kd.mJ BP.out BD.out (by decide)))
          have Du:=Aside0.mk (hb)
          have DK:=Aside0.mk (ho)
          clear Bz
          clear BI
          clear BN
          clear BK
          clear Bw
          clear BD
          clear HB
          clear BP
          have Bz:=Dm
          have BI:=Dn
          have BN:=Dp
          have BK:=Dq
          have Bw:=Dr
          have BD:=Dt
          have HB:=Du
          have EW:=DK
          clear Dm Dn Dp Dq Dr Dt Du DK
          clear ho hb hg hat
          obtain ⟨Fb,Fe,Fz⟩:=Kd.iL EW.out
          (first|subst Fz|(injection Fz with Jb JV Jc;have JW:=Jb.symm;have JX:=Jc.symm;clear Jb JV Jc;subst JW;subst JX))
          refine hK.out _ _ ⟨(ah BD.out 0).trans rfl,(ah BD.out 1).trans rfl,(ah BD.out 2).trans rfl,(ah BD.out 3).trans rfl,(ah BD.out 4).trans rfl,(ah BD.out 5).trans rfl,(ah Bw.out 0).trans rfl,(ah Bw.out 1).trans rfl,(ah Bw.out 2).trans rfl,(ah Bw.out 3).trans rfl,(ah Bw.out 4).trans rfl,(ah Bw.out 5).trans rfl,((HB.out.cell (World.block_lt_of_cell? w _ Cq)).trans Cq),((HB.out.cell (World.block_lt_of_cell? w _ Co)).trans Co),((HB.out.cell (World.block_lt_of_cell? w _ Ct)).trans Ct),((HB.out.cell (World.block_lt_of_cell? w _ Cr)).trans Cr)⟩ (fun hHeld=>?_)
          clear hK K
          refine dS (a':=?_) ?_ ?_
          rotate_left
          ·show Act.put _ (some 57) _ = _
           simp only [Act.put,List.setIfInBounds_toArray,List.set_cons_zero,List.set_cons_succ,bJ,bK]
           rfl
          refine pu_ 17 58 #[I,I,I,I,I,I,I,I,I,I,I,I,I,I,I,I,I,I,O] HT_.out ?_
          refine kL (i:=18) (N:=none) #[I,I,I,I,I,I,I,I,I,I,I,I,I,I,I,I,I,I,I] rfl rfl (dh HT_.out (by kernel_rfl)) (by decide) (fun K hK=>?_)
          have JY : JU.cell? ⟨BL,5,none⟩ = some (Ck):=(ah BD.out 5).trans rfl
          have Jd:=ay BD.out 5
          have F7:=Ce.out
          have F8:=Cg.out
          have F9:=Ch.out
          have Ga:=Ca.out
          have Gb:=C8.out
          have Gc:=C9.out
          have Gd:=Da.out
          have Gf:=CB.out
          refine jL (w1:=?_) (by rfl) rfl ?_ ?_
          rotate_left
          ·go_simp
           rfl
          refine hK.out _ _ ?_
          clear hK K
          refine jd (gI HT_.out (by kernel_rfl)) ?_
          try go_wp2
          go_roundg k2
          case measure=>have:=FM.out;have:=FP.out;omega
          case rel=>exact ⟨(wrap64 (Ci + 1)),(Ea),(.slice Fb Ea.length Fe),(by first|rfl|(simp;done)|(simp [*];done)),H',⟨by have:=FM.out;have:=FP.out;omega⟩,⟨by (with_reducible repeat (first|apply Kd.ig|apply Kd.iq|apply Kd.iG));exact Kd.fB (Kd.gL (p:=⟨BL,5,none⟩) (Kd.gZ Bz.out BD.out (by decide)) (fun _ hk=>hk.2) (.slice Fb Ea.length Fe)) (fun _ hk=>hk.1.2)⟩,⟨by (with_reducible repeat (first|apply Kd.bP|apply Kd.bQ|apply Kd.cB));exact Kd.iB (Kd.fJ (p:=⟨BL,5,none⟩) (Kd.iW EW.out BD.out (by decide)) (fun _ hk=>hk.2) (.slice Fb Ea.length Fe)) (fun _ hk=>trivial)⟩,⟨by (with_reducible repeat (first|apply aj|apply av|apply ak));refine aH ?_ Ce.out _;(with_reducible repeat (first|apply aj|apply av|apply ak));exact BI.out⟩,⟨by (with_reducible repeat (first|apply aj|apply av|apply ak));refine aH ?_ Cg.out _;(with_reducible repeat (first|apply aj|apply av|apply ak));exact BN.out⟩,⟨by (with_reducible repeat (first|apply aj|apply av|apply ak));refine aH ?_ Ch.out _;(with_reducible repeat (first|apply aj|apply av|apply ak));exact BK.out⟩,⟨by (with_reducible repeat (first|apply aj|apply av|apply ak));refine aH ?_ Ca.out _;(with_reducible repeat (first|apply aj|apply av|apply ak));exact Bw.out⟩,⟨by (with_reducible repeat (first|apply aj|apply av|apply ak));refine aT (cs:=#[.string ((aQ Bu Bv).f1),.string ((aQ Bu Bv).f2),.int .i64 (wrap64 ((aQ Bu Bv).f3)),.int .i64 (wrap64 ((aQ Bu Bv).f4)),.bool false,Ck]) ?_ 5 _ rfl;(with_reducible repeat (first|apply aj|apply av|apply ak));exact BD.out⟩,⟨hb_⟩⟩
         ·rw [if_neg c28] at H
          exact absurd H (by simp)
        ·rw [if_neg FQ] at H
         exact absurd H (by simp)
       ·rw [if_neg Fj] at H
        have c26b0 : decide (Ci < (((aQ Bu Bv).f5).length : Int)) = false:=decide_eq_false Fj
        clear Fj
        by_cases Gg : BZ.length < 1466015503701
        ·rw [if_pos Gg] at H
         have FB:=Aside0.mk Gg
         clear Gg
         obtain ⟨EP,Dx⟩ : ∃ y_ : List (S96),y_ = (BZ ++ [(⟨((aQ Bu Bv).f0),(⟨((aQ Bu Bv).f1),((aQ Bu Bv).f2),(wrap64 ((aQ Bu Bv).f3)),(wrap64 ((aQ Bu Bv).f4)),false,Cb⟩ : S94)⟩ : S96)]):=⟨_,rfl⟩
         replace H : (aD.l0 k2 (wrap64 (Bv + 1)) BO Bu BO EP) = some (r1,r2):=by first|(rw [Dx];with_reducible exact H)|(have EZ:=(Option.bind_some _ _).symm.trans H;rw [Dx];with_reducible exact EZ)|(have EZ:=(Option.bind_some _ _).symm.trans H;with_reducible exact EZ)|with_reducible exact H|(rw [Dx];exact H)|exact H
         have FC:=Aside0.mk Dx
         clear Dx
         have H':=Aside0.mk H
         clear H
         have Je:=CX.out
         have Jf:=BF.out
         have Jg:=CY.out
         have Jh:=BG.out
         have Ji:=CZ.out
         have Jj:=BH.out
         have Jk:=Ca.out
         have Jl:=CB.out
         have Gh : wr.cell? ⟨BJ,0,none⟩ = some (.string ((aQ Bu Bv).f0)):=(ah Bw.out 0).trans rfl
         have Gi : wr.cell? ⟨BJ,1,none⟩ = some (.string ((aQ Bu Bv).f1)):=(ah Bw.out 1).trans rfl
         have Gj : wr.cell? ⟨BJ,2,none⟩ = some (.string ((aQ Bu Bv).f2)):=(ah Bw.out 2).trans rfl
         have Gl : wr.cell? ⟨BJ,3,none⟩ = some (.int .u8 ((aQ Bu Bv).f3)):=(ah Bw.out 3).trans rfl
         have Gm : wr.cell? ⟨BJ,4,none⟩ = some (.int .u16 ((aQ Bu Bv).f4)):=(ah Bw.out 4).trans rfl
         have Gn : wr.cell? ⟨BJ,5,none⟩ = some (.slice Cv ((aQ Bu Bv).f5).length Cu):=(ah Bw.out 5).trans rfl
         have Gp:=ay Bw.out 0
         have Gq:=ay Bw.out 1
         have Gr:=ay Bw.out 2
         have Gs:=ay Bw.out 3
         have Gt:=ay Bw.out 4
         have Gu:=ay Bw.out 5
         have Jm:=Cz.out
         have Jo:=Cj.out
         have Jp:=CW.out
         have Jq:=Cm.out
         have Jr:=Ch.out
         have Js:=Da.out
         have Gv : wr.cell? ⟨BS,0,none⟩ = some (.int .u64 BO):=(ah BK.out 0).trans rfl
         have Gw : wr.cell? ⟨BS,1,none⟩ = some (BQ):=(ah BK.out 1).trans rfl
         have Gx:=ay BK.out 0
         have Gy:=ay BK.out 1
         have Jt:=C8.out
         have Ju:=Ce.out
         have Jv:=C9.out
         have Jw:=Cg.out
         have Gz : wr.cell? ⟨BL,0,none⟩ = some (.string ((aQ Bu Bv).f1)):=(ah BD.out 0).trans rfl
         have GA : wr.cell? ⟨BL,1,none⟩ = some (.string ((aQ Bu Bv).f2)):=(ah BD.out 1).trans rfl
         have GD : wr.cell? ⟨BL,2,none⟩ = some (.int .i64 (wrap64 ((aQ Bu Bv).f3))):=(ah BD.out 2).trans rfl
         have GI : wr.cell? ⟨BL,3,none⟩ = some (.int .i64 (wrap64 ((aQ Bu Bv).f4))):=(ah BD.out 3).trans rfl
         have GJ : wr.cell? ⟨BL,4,none⟩ = some (.bool false):=(ah BD.out 4).trans rfl
         have GK : wr.cell? ⟨BL,5,none⟩ = some (Ck):=(ah BD.out 5).trans rfl
         have GL:=ay BD.out 0
         have GN:=ay BD.out 1
         have GQ:=ay BD.out 2
         have GR:=ay BD.out 3
         have GU:=ay BD.out 4
         have GV:=ay BD.out 5
         obtain ⟨FD,FE,H9⟩:=Kd.iL BP.out
         subst H9
         go_wp2_with (first|((with_reducible refine je (b:=.append) (xs:=#[.tmp 60,.tmp 65]) rfl ?_);at_builtin;refine Kd.jK k96 (w0:=w) w.heap.size rfl (.tmp 60) (.tmp 65) 45 96 (.agg #[(.string ⟨#[]⟩),(.string ⟨#[]⟩),(.string ⟨#[]⟩),(.int .i64 0),(.int .i64 0),(.bool false),(.slice none 0 0)]) 96 rfl Tryz.underlying45 vP rfl (by decide) (by omega) BQ BZ (⟨((aQ Bu Bv).f0),(⟨((aQ Bu Bv).f1),((aQ Bu Bv).f2),(wrap64 ((aQ Bu Bv).f3)),(wrap64 ((aQ Bu Bv).f4)),false,Cb⟩ : S94)⟩ : S96) [.string ((aQ Bu Bv).f0),.string ((aQ Bu Bv).f1),.string ((aQ Bu Bv).f2),.int .i64 (wrap64 ((aQ Bu Bv).f3)),.int .i64 (wrap64 ((aQ Bu Bv).f4)),.bool false,.slice FD Cb.length FE] (fun _=>True) (fun k_=>((fun _=>True)) k_ ∧ some k_ ≠ (BQ : Value).ownBlock) rfl rfl ?aP (fun _ hk=>hk) ?aF ?aO ?aB ?aS ?aL ?_;(case aP=>exact xU _ _ _ (⟨((aQ Bu Bv).f0),(⟨((aQ Bu Bv).f1),((aQ Bu Bv).f2),(wrap64 ((aQ Bu Bv).f3)),(wrap64 ((aQ Bu Bv).f4)),false,Cb⟩ : S94)⟩ : S96) (Kd.fB (Kd.kP ((Kd.S_R BP.out)) (Kd.sW Bz.out) (by decide)) (fun k_ hk=>⟨trivial,hk.2⟩)));(case aB=>exact hb_);(case aF=>exact (fun _ _=>trivial));(case aO=>exact (by (with_reducible repeat (first|apply Kd.ig|apply Kd.iq|apply Kd.iG));exact Kd.fB Bz.out (fun _ hk=>trivial)));(case aS=>exact (aU hb_));(case aL=>have:=FB.out;omega);intro JZ Jy ho hb hg hat;rw [← FC.out] at ho;have Dm:=Aside0.mk (dU (g:=BR) (o:=.cells #[.int .u64 BO,.slice (some CG) Bu.length Cn] 39 (0,0)) (bk_ BI.out) hg (Kd.ji Bz.out BI.out (by decide)));have Dn:=Aside0.mk (dU (g:=BU) (o:=.cells #[.int .u64 0,.slice none 0 0] 47 (0,0)) (bk_ BN.out) hg (Kd.ji Bz.out BN.out (by decide)));have Dp:=Aside0.mk (dU (g:=BS) (o:=.cells #[.int .u64 BO,BQ] 47 (0,0)) (bk_ BK.out) hg (Kd.ji Bz.out BK.out (by decide)));have Dq:=Aside0.mk (dU (g:=BJ) (o:=.cells #[.string ((aQ Bu Bv).f0),.string ((aQ Bu Bv).f1),.string ((aQ Bu Bv).f2),.int .u8 ((aQ Bu Bv).f3),.int .u16 ((aQ Bu Bv).f4),.slice Cv ((aQ Bu Bv).f5).length Cu] 88 (0,0)) (bk_ Bw.out) hg (Kd.ji Bz.out Bw.out (by decide)));have Dr:=Aside0.mk (dU (g:=BL) (o:=.cells #[.string ((aQ Bu Bv).f1),.string ((aQ Bu Bv).f2),.int .i64 (wrap64 ((aQ Bu Bv).f3)),.int .i64 (wrap64 ((aQ Bu Bv).f4)),.bool false,.slice FD Cb.length FE] 94 (0,0)) (bk_ BD.out) hg (Kd.ji Bz.out BD.out (by decide)));have Dt:=Aside0.mk (hb);have Du:=Aside0.mk (ho);clear BI;clear BN;clear BK;clear Bw;clear BD;clear HB;clear Bz;clear BP;have BI:=Dm;have BN:=Dn;have BK:=Dp;have Bw:=Dq;have BD:=Dr;have HB:=Dt;have EX:=Du;clear Dm Dn Dp Dq Dr Dt Du;clear ho hb hg hat;obtain ⟨FH,FI,Ia⟩:=Kd.gH EX.out;subst Ia;have GX : Jy.cell? ⟨BS,0,none⟩ = some (.int .u64 BO):=(ah BK.out 0).trans rfl;have GY : Jy.cell? ⟨BS,1,none⟩ = some (BQ):=(ah BK.out 1).trans rfl;have GZ:=ay BK.out 0;have G5:=ay BK.out 1))
         go_roundg k2
         case measure=>have:=FM.out;have:=FP.out;omega
         case rel=>exact ⟨(wrap64 (Bv + 1)),(EP),(.slice FH EP.length FI),(by first|rfl|(simp;done)|(simp [*];done)),H',⟨by have:=FM.out;have:=FP.out;omega⟩,⟨by (with_reducible repeat (first|apply Kd.ig|apply Kd.iq|apply Kd.iG));exact Kd.fB (Kd.gL (p:=⟨BS,1,none⟩) (Kd.gZ EX.out BK.out (by decide)) (fun _ hk=>hk.2) (.slice FH EP.length FI)) (fun _ hk=>trivial)⟩,⟨by (with_reducible repeat (first|apply aj|apply av|apply ak));refine aH ?_ Cj.out _;(with_reducible repeat (first|apply aj|apply av|apply ak));exact BI.out⟩,⟨by (with_reducible repeat (first|apply aj|apply av|apply ak));refine aH ?_ Cm.out _;(with_reducible repeat (first|apply aj|apply av|apply ak));exact BN.out⟩,⟨by (with_reducible repeat (first|apply aj|apply av|apply ak));refine aT (cs:=#[.int .u64 BO,BQ]) ?_ 1 _ rfl;(with_reducible repeat (first|apply aj|apply av|apply ak));exact BK.out⟩,⟨hb_⟩⟩
        ·rw [if_neg Gg] at H
         exact absurd H (by simp)
    ·rw [if_neg c11] at H
     exact absurd H (by simp)
   ·rw [if_neg c10] at H
    have c10b0 : decide (Bv < (Bu.length : Int)) = false:=decide_eq_false c10
    clear c10
    simp only [Option.some.injEq,Prod.mk.injEq] at H
    obtain ⟨rfl,rfl⟩:=H
    have Jz:=CU.out
    have JA:=CV.out
    have JB:=Cj.out
    have JC:=Cz.out
    have G6 : wr.cell? ⟨BR,0,none⟩ = some (.int .u64 BO):=(ah BI.out 0).trans rfl
    have G7 : wr.cell? ⟨BR,1,none⟩ = some (.slice CS Bu.length Cn):=(ah BI.out 1).trans rfl
    have G8:=ay BI.out 0
    have G9:=ay BI.out 1
    have JD:=CW.out
    have JE:=Cm.out
    have He : wr.cell? ⟨BS,0,none⟩ = some (.int .u64 BO):=(ah BK.out 0).trans rfl
    have Hf : wr.cell? ⟨BS,1,none⟩ = some (BQ):=(ah BK.out 1).trans rfl
    have Hg:=ay BK.out 0
    have Hl:=ay BK.out 1
    have Ho : wr.cell? ⟨BU,0,none⟩ = some (.int .u64 0):=(ah BN.out 0).trans rfl
    have Hq : wr.cell? ⟨BU,1,none⟩ = some (.slice none 0 0):=(ah BN.out 1).trans rfl
    have Hr:=ay BN.out 0
    have Ht:=ay BN.out 1
    obtain ⟨FJ,FL,Ib⟩:=Kd.gH Bz.out
    subst Ib
    go_wp2
    refine bodyPost_ret (results_cell_row rfl _ _ BU 47 #[.int .u64 BO,.slice FJ BZ.length FL] (0,0) _ rfl (by (with_reducible repeat (first|apply aj|apply av|apply ak));refine aT (cs:=#[.int .u64 BO,.slice none 0 0]) ?_ 1 _ rfl;(with_reducible repeat (first|apply aj|apply av|apply ak));refine aT (cs:=#[.int .u64 0,.slice none 0 0]) ?_ 0 _ rfl;(with_reducible repeat (first|apply aj|apply av|apply ak));exact BN.out) Tryz.underlying47 rfl (by kernel_rfl)) rfl ?_
    exact ⟨_,by first|rfl|(simp [bB,bC] <;> rfl)|(simp [*,bB,bC] <;> rfl),by (with_reducible repeat (first|apply Kd.ig|apply Kd.iq|apply Kd.iG));exact Kd.fB (Kd.gL (p:=⟨BU,1,none⟩) (Kd.gL (p:=⟨BU,0,none⟩) (Kd.gZ Bz.out BN.out (by decide)) (fun _ hk=>hk.2) (.int .u64 BO)) (fun _ hk=>hk.2) (.slice FJ BZ.length FL)) (fun _ hk=>trivial),hb_⟩
end Go.Proofs.YtpncpefppifgdaaGreatDoor.GUt
