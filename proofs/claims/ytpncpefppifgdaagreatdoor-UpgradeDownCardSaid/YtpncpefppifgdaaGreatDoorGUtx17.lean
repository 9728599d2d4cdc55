/- Written by this session's own program (wip/gen.py) out of the translation: plain Lean functions of the Go functions, and proofs that the calls come to their answers. No conditions beside those in the statements. -/
import Derived.Test.YtpncpefppifgdaaGreatDoorCp
import Derived.Test.YtpncpefppifgdaaGreatDoorGUtx0
namespace Go.Proofs.YtpncpefppifgdaaGreatDoor.GUt
open Go.RowKit Go.Proofs.YtpncpefppifgdaaGreatDoorW.PrintWords Go.Proofs.YtpncpefppifgdaaGreatDoorW.PrintLast Go.Proofs.YtpncpefppifgdaaGreatDoorW.PrintMore
attribute [local go_sem] fH fI gF gG eZ fq fJ fK
set_option linter.unusedVariables false
set_option linter.unusedSimpArgs false
mutual
def bf.l0 : Nat → List (S71) → Int → Int → Int → List (S88) → Option (Int × (List (S88)))
 | 0,_,_,_,_,_=>none
 | k + 1,FD,I4,EO,C8,CS=>if EO < I4 then (if 0 ≤ EO then (if EO < (FD.length : Int) then (bf.l1 k FD I4 EO ((aK FD EO).f5) (((aK FD EO).f5).length : Int) 0 C8 CS ((aK FD EO).f0) ((aK FD EO).f1) ((aK FD EO).f2) ((aK FD EO).f3) ((aK FD EO).f4) ([] : List (S89))) else (none)) else (none)) else (some (C8,CS))
def bf.l1 : Nat → List (S71) → Int → Int → List (S73) → Int → Int → Int → List (S88) → ByteArray → ByteArray → ByteArray → Int → Int → List (S89) → Option (Int × (List (S88)))
 | 0,_,_,_,_,_,_,_,_,_,_,_,_,_,_=>none
 | k + 1,FD,I4,EO,x31,x32,IW,C8,CS,x200000,EP,ER,ES,ET,Ef=>if IW < x32 then (if 0 ≤ IW then (if IW < (x31.length : Int) then (if Ef.length < 4398046511104 then (bf.l1 k FD I4 EO x31 x32 (wrap64 (IW + 1)) C8 CS x200000 EP ER ES ET (Ef ++ [(⟨(fZ x31 IW).f0,(fZ x31 IW).f1⟩ : S89)])) else (none)) else (none)) else (none)) else (if CS.length < 1759218604441 then (bf.l0 k FD I4 (wrap64 (EO + 1)) C8 (CS ++ [(⟨x200000,EP,ER,ES,ET,Ef⟩ : S88)])) else (none))
end
def bf.f (k : Nat) (BL : Int) (Bz : List (S71)) : Option (Int × (List (S88))):=bf.l0 k Bz (Bz.length : Int) 0 BL ([] : List (S88))
theorem bf.eB : ∀ k,(∀ y0 y1 y2 y3 y4,LeO (bf.l0 k y0 y1 y2 y3 y4) (bf.l0 (k + 1) y0 y1 y2 y3 y4)) ∧ (∀ y0 y1 y2 y3 y4 y5 y6 y7 y8 y9 IB IC IE y13,LeO (bf.l1 k y0 y1 y2 y3 y4 y5 y6 y7 y8 y9 IB IC IE y13) (bf.l1 (k + 1) y0 y1 y2 y3 y4 y5 y6 y7 y8 y9 IB IC IE y13))
 | 0=>⟨fun _ _ _ _ _ r h=>by simp [bf.l0] at h,fun _ _ _ _ _ _ _ _ _ _ _ _ _ _ r h=>by simp [bf.l1] at h⟩
 | k + 1=>by
  obtain ⟨En,ih1⟩:=bf.eB k
  refine ⟨?_,?_⟩
  ·intro y0 y1 y2 y3 y4
   unfold bf.l0
   repeat' first
   | (with_reducible exact En _ _ _ _ _)
   | (with_reducible exact ih1 _ _ _ _ _ _ _ _ _ _ _ _ _ _)
   | (with_reducible exact LeO.refl _)
   | (with_reducible exact LeO.none _)
   | (with_reducible refine LeO.ite ?_ ?_)
   | (with_reducible refine LeO.bind ?_ (fun _=>?_))
   | exact En _ _ _ _ _
   | exact ih1 _ _ _ _ _ _ _ _ _ _ _ _ _ _
   | exact LeO.none _
   | refine LeO.ite ?_ ?_
   | refine LeO.bind ?_ (fun _=>?_)
  ·intro y0 y1 y2 y3 y4 y5 y6 y7 y8 y9 IB IC IE y13
   unfold bf.l1
   repeat' first
   | (with_reducible exact En _ _ _ _ _)
   | (with_reducible exact ih1 _ _ _ _ _ _ _ _ _ _ _ _ _ _)
   | (with_reducible exact LeO.refl _)
   | (with_reducible exact LeO.none _)
   | (with_reducible refine LeO.ite ?_ ?_)
   | (with_reducible refine LeO.bind ?_ (fun _=>?_))
   | exact En _ _ _ _ _
   | exact ih1 _ _ _ _ _ _ _ _ _ _ _ _ _ _
   | exact LeO.none _
   | refine LeO.ite ?_ ?_
   | refine LeO.bind ?_ (fun _=>?_)
theorem bf.mono : ∀ a0 a1 k,LeO (bf.f k a0 a1) (bf.f (k + 1) a0 a1):=by
 intro a0 a1 k
 obtain ⟨En,ih1⟩:=bf.eB k
 unfold bf.f
 repeat' first
   | (with_reducible exact En _ _ _ _ _)
   | (with_reducible exact ih1 _ _ _ _ _ _ _ _ _ _ _ _ _ _)
   | (with_reducible exact LeO.refl _)
   | (with_reducible exact LeO.none _)
   | (with_reducible refine LeO.ite ?_ ?_)
   | (with_reducible refine LeO.bind ?_ (fun _=>?_))
   | exact En _ _ _ _ _
   | exact ih1 _ _ _ _ _ _ _ _ _ _ _ _ _ _
   | exact LeO.none _
   | refine LeO.ite ?_ ?_
   | refine LeO.bind ?_ (fun _=>?_)
set_option maxHeartbeats 8000000 in
set_option maxRecDepth 100000 in
theorem bf.calls (k : Nat) (BL : Int) (DU : Option Addr) (Cx : Nat) (Bz : List (S71)) (r1 : Int) (r2 : List (S88)) (w : World) (Io : Kd.C k71 w DU Bz.length Bz) (Ip : Bz.length ≤ Cx) (h : bf.f k BL Bz = some (r1,r2)) :
  Calls Tryz.prog 10 #[.agg #[.int .u64 BL,.slice DU Bz.length Cx]] w fun e w'=>∃ KR : Value,e = .returned (.agg #[.int .u64 r1,KR]) ∧ Kd.S k88 88 w' w.heap.size (fun _=>True) KR r2 ∧ Below w.heap.size w w':=by
 have MS:=Tryz.underlying29
 have MU:=Tryz.underlying39
 have MV:=Tryz.underlying71
 have MW:=Tryz.underlying88
 have MX:=Tryz.underlying73
 have I5:=Aside0.mk Io
 have KS:=Aside0.mk Ip
 clear Io Ip
 have HB:=Aside0.mk (Below.refl w.heap.size w)
 have H : (bf.l0 k Bz (Bz.length : Int) 0 BL ([] : List (S88))) = some (r1,r2):=h
 clear h
 have H':=Aside0.mk H
 clear H
 go_enter Tryz.func10,Tryz.ntmps10
 go_wp2_with (first|((with_reducible refine bN (N:=1) rfl ?_);refine bT ?hg (N:=1) ?hd (cs:=#[.int .u64 BL,.slice DU Bz.length Cx]) (t:=29) ?hr ?_;(case hd=>rfl);(case hg=>rfl);(case hr=>first|(go_simp;done)|(go_simp;rfl));intro Cb hg w2 hbox hb;have CU:=Aside0.mk (aN hb_ hb);have CV:=Aside0.mk (hbox);have CW:=Aside0.mk ((by rw [hg];exact (aR hb_) : w.heap.size ≤ Cb));have CX:=Aside0.mk ((by rw [hg];exact (aR hb_) : w.heap.size ≤ Cb));clear HB;have HB:=CU;have BK:=CV;have KT:=CW;have KU:=CX;clear CU CV CW CX;clear hb hbox hg)|((with_reducible refine bN (N:=2) rfl ?_);refine bT ?hg (N:=2) ?hd (cs:=#[.int .u64 0,.slice none 0 0]) (t:=39) ?hr ?_;(case hd=>rfl);(case hg=>rfl);(case hr=>first|(go_simp;done)|(go_simp;rfl));intro Ce hg w3 hbox hb;have CU:=Aside0.mk (aJ (g:=Cb) (o:=.cells #[.int .u64 BL,.slice DU Bz.length Cx] 29 (0,0)) (bk_ BK.out) hb);have CV:=Aside0.mk (aN hb_ hb);have CW:=Aside0.mk (hbox);have CX:=Aside0.mk ((by rw [hg];exact (aR hb_) : w.heap.size ≤ Ce));have DK:=Aside0.mk ((by rw [hg];exact (aR hb_) : w.heap.size ≤ Ce));have DL:=Aside0.mk ((by rw [hg];exact Nat.ne_of_lt (aW (g:=Cb) (o:=.cells #[.int .u64 BL,.slice DU Bz.length Cx] 29 (0,0)) (bk_ BK.out)) : Cb ≠ Ce));have DN:=Aside0.mk ((by rw [hg];exact Nat.ne_of_gt (aW (g:=Cb) (o:=.cells #[.int .u64 BL,.slice DU Bz.length Cx] 29 (0,0)) (bk_ BK.out)) : Ce ≠ Cb));clear BK;clear HB;have BK:=CU;have HB:=CV;have BR:=CW;have KV:=CX;have KW:=DK;have Eb:=DL;have Ec:=DN;clear CU CV CW CX DK DL DN;clear hb hbox hg;have MZ:=Eb.out;have M0:=Ec.out;have FH : w3.cell? ⟨Cb,0,none⟩ = some (.int .u64 BL):=(ah BK.out 0).trans rfl;have FI : w3.cell? ⟨Cb,1,none⟩ = some (.slice DU Bz.length Cx):=(ah BK.out 1).trans rfl;have FJ:=av BK.out 0;have FL:=av BK.out 1)|((with_reducible refine bN (N:=3) rfl ?_);refine bT ?hg (N:=3) ?hd (cs:=#[.int .u64 0,.slice none 0 0]) (t:=39) ?hr ?_;(case hd=>rfl);(case hg=>rfl);(case hr=>first|(go_simp;done)|(go_simp;rfl));intro Cc hg w6 hbox hb;have CU:=Aside0.mk (aJ (g:=Cb) (o:=.cells #[.int .u64 BL,.slice DU Bz.length Cx] 29 (0,0)) (bk_ BK.out) hb);have CV:=Aside0.mk (aJ (g:=Ce) (o:=.cells #[.int .u64 0,.slice none 0 0] 39 (0,0)) (bk_ BR.out) hb);have CW:=Aside0.mk (aN hb_ hb);have CX:=Aside0.mk (hbox);have DK:=Aside0.mk ((by rw [hg];exact (aR hb_) : w.heap.size ≤ Cc));have DL:=Aside0.mk ((by rw [hg];exact (aR hb_) : w.heap.size ≤ Cc));have DN:=Aside0.mk ((by rw [hg];exact Nat.ne_of_lt (aW (g:=Cb) (o:=.cells #[.int .u64 BL,.slice DU Bz.length Cx] 29 (0,0)) (bk_ BK.out)) : Cb ≠ Cc));have Eo:=Aside0.mk ((by rw [hg];exact Nat.ne_of_gt (aW (g:=Cb) (o:=.cells #[.int .u64 BL,.slice DU Bz.length Cx] 29 (0,0)) (bk_ BK.out)) : Cc ≠ Cb));have Ep:=Aside0.mk ((by rw [hg];exact Nat.ne_of_lt (aW (g:=Ce) (o:=.cells #[.int .u64 0,.slice none 0 0] 39 (0,0)) (bk_ BR.out)) : Ce ≠ Cc));have EU:=Aside0.mk ((by rw [hg];exact Nat.ne_of_gt (aW (g:=Ce) (o:=.cells #[.int .u64 0,.slice none 0 0] 39 (0,0)) (bk_ BR.out)) : Cc ≠ Ce));clear BK;clear BR;clear HB;have BK:=CU;have BR:=CV;have HB:=CW;have BN:=CX;have KX:=DK;have KY:=DL;have Cy:=DN;have Dm:=Eo;have Cz:=Ep;have Dn:=EU;clear CU CV CW CX DK DL DN Eo Ep EU;clear hb hbox hg;have M4:=Dm.out;have M6:=Cy.out;have KJ:=Dn.out;have KL:=Cz.out;have D7 : w6.cell? ⟨Cc,0,none⟩ = some (.int .u64 0):=(ah BN.out 0).trans rfl;have D8 : w6.cell? ⟨Cc,1,none⟩ = some (.slice none 0 0):=(ah BN.out 1).trans rfl;have D9:=av BN.out 0;have Ea:=av BN.out 1;have EW : w6.cell? ⟨Cb,0,none⟩ = some (.int .u64 BL):=(ah BK.out 0).trans rfl;have EX : w6.cell? ⟨Cb,1,none⟩ = some (.slice DU Bz.length Cx):=(ah BK.out 1).trans rfl;have EY:=av BK.out 0;have EZ:=av BK.out 1))
 go_loopg [15] k (fun kq v15 w'=>∃ (Bw : Int) (Cj : List (S88)) (BS : Value),v15 = .int .i64 Bw ∧ Aside0 (bf.l0 kq Bz (Bz.length : Int) Bw BL Cj = some (r1,r2)) ∧ Aside0 (kq ≤ k) ∧ Aside0 (Kd.S k88 88 w' w.heap.size (fun _=>True) BS Cj) ∧ Aside0 (w'.heap[Cb]? = some (.cells #[.int .u64 BL,(.slice DU Bz.length Cx)] 29 (0,0))) ∧ Aside0 (w'.heap[Ce]? = some (.cells #[.int .u64 0,(.slice none 0 0)] 39 (0,0))) ∧ Aside0 (w'.heap[Cc]? = some (.cells #[.int .u64 BL,BS] 39 (0,0))) ∧ Aside0 (Below w.heap.size w w'))
 case atStart=>exact ⟨(0),(([] : List (S88))),(.slice none 0 0),(by first|rfl|(simp;done)|(simp [*];done)),H',⟨Nat.le_refl _⟩,⟨by first|exact Kd.lW _ _ _ _ _|exact Kd.jw _ _ _ _ _|exact Kd.kR _ _ _ _ _|exact Kd.lT _ _ _ _ _|exact Kd.je _ _ _ _ _⟩,⟨by (with_reducible repeat (first|apply aj|apply ay|apply ak));refine aD ?_ Cy.out _;(with_reducible repeat (first|apply aj|apply ay|apply ak));refine aD ?_ Cy.out _;(with_reducible repeat (first|apply aj|apply ay|apply ak));exact BK.out⟩,⟨by (with_reducible repeat (first|apply aj|apply ay|apply ak));refine aD ?_ Cz.out _;(with_reducible repeat (first|apply aj|apply ay|apply ak));refine aD ?_ Cz.out _;(with_reducible repeat (first|apply aj|apply ay|apply ak));exact BR.out⟩,⟨by (with_reducible repeat (first|apply aj|apply ay|apply ak));refine aQ (cs:=#[.int .u64 BL,.slice none 0 0]) ?_ 1 _ rfl;(with_reducible repeat (first|apply aj|apply ay|apply ak));refine aQ (cs:=#[.int .u64 0,.slice none 0 0]) ?_ 0 _ rfl;(with_reducible repeat (first|apply aj|apply ay|apply ak));exact BN.out⟩,⟨hb_⟩⟩
 case round =>
  clear H'
  try clear c1
  try clear p2
  try clear c4
  try clear c7
  try clear c8
  try clear c10
  try clear EW
  try clear EX
  try clear FH
  try clear FI
  try clear D7
  try clear D8
  try clear EY
  try clear EZ
  try clear FJ
  try clear FL
  try clear D9
  try clear Ea
  obtain ⟨Bw,Cj,BS,rfl,HA,FM,BH,BK,BR,BN,HB⟩:=hrel
  cases gk with
  | zero=>exact absurd HA.out (by simp [bf.l0])
  | succ k1 =>
   have H:=HA.out
   clear HA
   simp only [bf.l0] at H
   by_cases c11 : Bw < (Bz.length : Int)
   ·rw [if_pos c11] at H
    have c11b0 : decide (Bw < (Bz.length : Int)) = true:=decide_eq_true c11
    clear c11
    by_cases c12 : 0 ≤ Bw
    ·rw [if_pos c12] at H
     have c12b0 : decide (0 ≤ Bw) = true:=decide_eq_true c12
     clear c12
     by_cases c13 : Bw < (Bz.length : Int)
     ·rw [if_pos c13] at H
      have c13b0 : decide (Bw < (Bz.length : Int)) = true:=decide_eq_true c13
      clear c13
      have H':=Aside0.mk H
      clear H
      have Gc : 0 ≤ (Bw : Int):=of_decide_eq_true (by first|(with_reducible assumption)|assumption)
      have Gd : Bw < (Bz.length : Int):=of_decide_eq_true (by first|(with_reducible assumption)|assumption)
      obtain ⟨CP,CZ,CB,e197,DV,DW,DX,DY,DZ,D5,E5,E8⟩:=vS I5.out Bw Gc Gd
      cases e197
      replace DV:=(HB.out.cell (World.block_lt_of_cell? w _ DV)).trans DV
      replace DW:=(HB.out.cell (World.block_lt_of_cell? w _ DW)).trans DW
      replace DX:=(HB.out.cell (World.block_lt_of_cell? w _ DX)).trans DX
      replace DY:=(HB.out.cell (World.block_lt_of_cell? w _ DY)).trans DY
      replace DZ:=(HB.out.cell (World.block_lt_of_cell? w _ DZ)).trans DZ
      replace D5:=(HB.out.cell (World.block_lt_of_cell? w _ D5)).trans D5
      have Gf:=Aside0.mk E8
      have Jm:=Aside0.mk E5
      clear E8 E5
      replace Gc:=eq_true Gc
      replace Gd:=eq_true Gd
      go_wp2_with (first|((with_reducible refine bN (N:=5) rfl ?_);refine bT ?hg (N:=5) ?hd (cs:=#[.string (⟨#[]⟩ : ByteArray),.string (⟨#[]⟩ : ByteArray),.string (⟨#[]⟩ : ByteArray),.int .u8 0,.int .u16 0,.slice none 0 0]) (t:=71) ?hr ?_;(case hd=>rfl);(case hg=>rfl);(case hr=>first|(go_simp;done)|(go_simp;rfl));intro BU hg IX hbox hb;have CU:=Aside0.mk (Kd.fB (by (with_reducible repeat (first|apply Kd.dw|apply Kd.dx|apply Kd.dN));exact BH.out) hb);have CV:=Aside0.mk (aJ (g:=Cb) (o:=.cells #[.int .u64 BL,.slice (some CP) Bz.length Cx] 29 (0,0)) (bk_ BK.out) hb);have CW:=Aside0.mk (aJ (g:=Ce) (o:=.cells #[.int .u64 0,.slice none 0 0] 39 (0,0)) (bk_ BR.out) hb);have CX:=Aside0.mk (aJ (g:=Cc) (o:=.cells #[.int .u64 BL,BS] 39 (0,0)) (bk_ BN.out) hb);have DK:=Aside0.mk (aN hb_ hb);have DL:=Aside0.mk (hbox);have DN:=Aside0.mk ((by rw [hg];exact (aR hb_) : w.heap.size ≤ BU));have Eo:=Aside0.mk ((by rw [hg];exact (aR hb_) : w.heap.size ≤ BU));have Ep:=Aside0.mk ((by rw [hg];exact Nat.ne_of_lt (aW (g:=Cb) (o:=.cells #[.int .u64 BL,.slice (some CP) Bz.length Cx] 29 (0,0)) (bk_ BK.out)) : Cb ≠ BU));have EU:=Aside0.mk ((by rw [hg];exact Nat.ne_of_gt (aW (g:=Cb) (o:=.cells #[.int .u64 BL,.slice (some CP) Bz.length Cx] 29 (0,0)) (bk_ BK.out)) : BU ≠ Cb));have Er:=Aside0.mk ((by rw [hg];exact Nat.ne_of_lt (aW (g:=Ce) (o:=.cells #[.int .u64 0,.slice none 0 0] 39 (0,0)) (bk_ BR.out)) : Ce ≠ BU));have Es:=Aside0.mk ((by rw [hg];exact Nat.ne_of_gt (aW (g:=Ce) (o:=.cells #[.int .u64 0,.slice none 0 0] 39 (0,0)) (bk_ BR.out)) : BU ≠ Ce));have Et:=Aside0.mk ((by rw [hg];exact Nat.ne_of_lt (aW (g:=Cc) (o:=.cells #[.int .u64 BL,BS] 39 (0,0)) (bk_ BN.out)) : Cc ≠ BU));have Eu:=Aside0.mk ((by rw [hg];exact Nat.ne_of_gt (aW (g:=Cc) (o:=.cells #[.int .u64 BL,BS] 39 (0,0)) (bk_ BN.out)) : BU ≠ Cc));clear BH;clear BK;clear BR;clear BN;clear HB;have BH:=CU;have BK:=CV;have BR:=CW;have BN:=CX;have HB:=DK;have BO:=DL;have KZ:=DN;have K4:=Eo;have BP:=Ep;have Fq:=EU;have BQ:=Er;have Fu:=Es;have BJ:=Et;have Ed:=Eu;clear CU CV CW CX DK DL DN Eo Ep EU Er Es Et Eu;clear hb hbox hg;have K7:=Fq.out;have K8:=BP.out;have K9:=Fu.out;have La:=BQ.out;have Lb:=Ed.out;have Lc:=BJ.out;have Gg : IX.cell? ⟨BU,0,none⟩ = some (.string (⟨#[]⟩ : ByteArray)):=(ah BO.out 0).trans rfl;have Gh : IX.cell? ⟨BU,1,none⟩ = some (.string (⟨#[]⟩ : ByteArray)):=(ah BO.out 1).trans rfl;have Gi : IX.cell? ⟨BU,2,none⟩ = some (.string (⟨#[]⟩ : ByteArray)):=(ah BO.out 2).trans rfl;have Gj : IX.cell? ⟨BU,3,none⟩ = some (.int .u8 0):=(ah BO.out 3).trans rfl;have Gl : IX.cell? ⟨BU,4,none⟩ = some (.int .u16 0):=(ah BO.out 4).trans rfl;have Gm : IX.cell? ⟨BU,5,none⟩ = some (.slice none 0 0):=(ah BO.out 5).trans rfl;have Gn:=av BO.out 0;have Gp:=av BO.out 1;have Gq:=av BO.out 2;have Gr:=av BO.out 3;have Gs:=av BO.out 4;have Gt:=av BO.out 5)|((with_reducible refine bN (N:=6) rfl ?_);refine bT ?hg (N:=6) ?hd (cs:=#[.string (⟨#[]⟩ : ByteArray),.string (⟨#[]⟩ : ByteArray),.string (⟨#[]⟩ : ByteArray),.int .u8 0,.int .u16 0,.slice none 0 0]) (t:=88) ?hr ?_;(case hd=>rfl);(case hg=>rfl);(case hr=>first|(go_simp;done)|(go_simp;rfl));intro BI hg FE hbox hb;have CU:=Aside0.mk (Kd.fB (Kd.qP (by (with_reducible repeat (first|apply Kd.dw|apply Kd.dx|apply Kd.dN));exact (Kd.fV (Kd.dB (p:=⟨BU,5,none⟩) (Kd.dB (p:=⟨BU,4,none⟩) (Kd.dB (p:=⟨BU,3,none⟩) (Kd.dB (p:=⟨BU,2,none⟩) (Kd.dB (p:=⟨BU,1,none⟩) (Kd.dB (p:=⟨BU,0,none⟩) (Kd.gV BH.out BO.out (by decide)) (fun _ hk=>hk.2) (.string ((aK Bz Bw).f0))) (fun _ hk=>hk.2) (.string ((aK Bz Bw).f1))) (fun _ hk=>hk.2) (.string ((aK Bz Bw).f2))) (fun _ hk=>hk.2) (.int .u8 ((aK Bz Bw).f3))) (fun _ hk=>hk.2) (.int .u16 ((aK Bz Bw).f4))) (fun _ hk=>hk.2) (.slice CZ ((aK Bz Bw).f5).length CB)) (fun _ h_=>h_.1))) BI (Nat.le_of_eq hg.symm)) hb);have CV:=Aside0.mk (aJ (g:=Cb) (o:=.cells #[.int .u64 BL,.slice (some CP) Bz.length Cx] 29 (0,0)) (by (with_reducible repeat (first|apply aj|apply ay|apply ak));refine aD ?_ BP.out _;(with_reducible repeat (first|apply aj|apply ay|apply ak));refine aD ?_ BP.out _;(with_reducible repeat (first|apply aj|apply ay|apply ak));refine aD ?_ BP.out _;(with_reducible repeat (first|apply aj|apply ay|apply ak));refine aD ?_ BP.out _;(with_reducible repeat (first|apply aj|apply ay|apply ak));refine aD ?_ BP.out _;(with_reducible repeat (first|apply aj|apply ay|apply ak));refine aD ?_ BP.out _;(with_reducible repeat (first|apply aj|apply ay|apply ak));exact BK.out) hb);have CW:=Aside0.mk (aJ (g:=Ce) (o:=.cells #[.int .u64 0,.slice none 0 0] 39 (0,0)) (by (with_reducible repeat (first|apply aj|apply ay|apply ak));refine aD ?_ BQ.out _;(with_reducible repeat (first|apply aj|apply ay|apply ak));refine aD ?_ BQ.out _;(with_reducible repeat (first|apply aj|apply ay|apply ak));refine aD ?_ BQ.out _;(with_reducible repeat (first|apply aj|apply ay|apply ak));refine aD ?_ BQ.out _;(with_reducible repeat (first|apply aj|apply ay|apply ak));refine aD ?_ BQ.out _;(with_reducible repeat (first|apply aj|apply ay|apply ak));refine aD ?_ BQ.out _;(with_reducible repeat (first|apply aj|apply ay|apply ak));exact BR.out) hb);have CX:=Aside0.mk (aJ (g:=Cc) (o:=.cells #[.int .u64 BL,BS] 39 (0,0)) (by (with_reducible repeat (first|apply aj|apply ay|apply ak));refine aD ?_ BJ.out _;(with_reducible repeat (first|apply aj|apply ay|apply ak));refine aD ?_ BJ.out _;(with_reducible repeat (first|apply aj|apply ay|apply ak));refine aD ?_ BJ.out _;(with_reducible repeat (first|apply aj|apply ay|apply ak));refine aD ?_ BJ.out _;(with_reducible repeat (first|apply aj|apply ay|apply ak));refine aD ?_ BJ.out _;(with_reducible repeat (first|apply aj|apply ay|apply ak));refine aD ?_ BJ.out _;(with_reducible repeat (first|apply aj|apply ay|apply ak));exact BN.out) hb);have DK:=Aside0.mk (aJ (g:=BU) (o:=.cells #[.string ((aK Bz Bw).f0),.string ((aK Bz Bw).f1),.string ((aK Bz Bw).f2),.int .u8 ((aK Bz Bw).f3),.int .u16 ((aK Bz Bw).f4),.slice CZ ((aK Bz Bw).f5).length CB] 71 (0,0)) (by (with_reducible repeat (first|apply aj|apply ay|apply ak));refine aQ (cs:=#[.string ((aK Bz Bw).f0),.string ((aK Bz Bw).f1),.string ((aK Bz Bw).f2),.int .u8 ((aK Bz Bw).f3),.int .u16 ((aK Bz Bw).f4),.slice none 0 0]) ?_ 5 _ rfl;(with_reducible repeat (first|apply aj|apply ay|apply ak));refine aQ (cs:=#[.string ((aK Bz Bw).f0),.string ((aK Bz Bw).f1),.string ((aK Bz Bw).f2),.int .u8 ((aK Bz Bw).f3),.int .u16 0,.slice none 0 0]) ?_ 4 _ rfl;(with_reducible repeat (first|apply aj|apply ay|apply ak));refine aQ (cs:=#[.string ((aK Bz Bw).f0),.string ((aK Bz Bw).f1),.string ((aK Bz Bw).f2),.int .u8 0,.int .u16 0,.slice none 0 0]) ?_ 3 _ rfl;(with_reducible repeat (first|apply aj|apply ay|apply ak));refine aQ (cs:=#[.string ((aK Bz Bw).f0),.string ((aK Bz Bw).f1),.string (⟨#[]⟩ : ByteArray),.int .u8 0,.int .u16 0,.slice none 0 0]) ?_ 2 _ rfl;(with_reducible repeat (first|apply aj|apply ay|apply ak));refine aQ (cs:=#[.string ((aK Bz Bw).f0),.string (⟨#[]⟩ : ByteArray),.string (⟨#[]⟩ : ByteArray),.int .u8 0,.int .u16 0,.slice none 0 0]) ?_ 1 _ rfl;(with_reducible repeat (first|apply aj|apply ay|apply ak));refine aQ (cs:=#[.string (⟨#[]⟩ : ByteArray),.string (⟨#[]⟩ : ByteArray),.string (⟨#[]⟩ : ByteArray),.int .u8 0,.int .u16 0,.slice none 0 0]) ?_ 0 _ rfl;(with_reducible repeat (first|apply aj|apply ay|apply ak));exact BO.out) hb);have DL:=Aside0.mk (aN hb_ hb);have DN:=Aside0.mk (hbox);have Eo:=Aside0.mk ((by rw [hg];exact (aR hb_) : w.heap.size ≤ BI));have Ep:=Aside0.mk ((by rw [hg];exact (aR hb_) : w.heap.size ≤ BI));have EU:=Aside0.mk ((by rw [hg];exact Nat.ne_of_lt (aW (g:=Cb) (o:=.cells #[.int .u64 BL,.slice (some CP) Bz.length Cx] 29 (0,0)) (by (with_reducible repeat (first|apply aj|apply ay|apply ak));refine aD ?_ BP.out _;(with_reducible repeat (first|apply aj|apply ay|apply ak));refine aD ?_ BP.out _;(with_reducible repeat (first|apply aj|apply ay|apply ak));refine aD ?_ BP.out _;(with_reducible repeat (first|apply aj|apply ay|apply ak));refine aD ?_ BP.out _;(with_reducible repeat (first|apply aj|apply ay|apply ak));refine aD ?_ BP.out _;(with_reducible repeat (first|apply aj|apply ay|apply ak));refine aD ?_ BP.out _;(with_reducible repeat (first|apply aj|apply ay|apply ak));exact BK.out)) : Cb ≠ BI));have Er:=Aside0.mk ((by rw [hg];exact Nat.ne_of_gt (aW (g:=Cb) (o:=.cells #[.int .u64 BL,.slice (some CP) Bz.length Cx] 29 (0,0)) (by (with_reducible repeat (first|apply aj|apply ay|apply ak));refine aD ?_ BP.out _;(with_reducible repeat (first|apply aj|apply ay|apply ak));refine aD ?_ BP.out _;(with_reducible repeat (first|apply aj|apply ay|apply ak));refine aD ?_ BP.out _;(with_reducible repeat (first|apply aj|apply ay|apply ak));refine aD ?_ BP.out _;(with_reducible repeat (first|apply aj|apply ay|apply ak));refine aD ?_ BP.out _;(with_reducible repeat (first|apply aj|apply ay|apply ak));refine aD ?_ BP.out _;(with_reducible repeat (first|apply aj|apply ay|apply ak));exact BK.out)) : BI ≠ Cb));have Es:=Aside0.mk ((by rw [hg];exact Nat.ne_of_lt (aW (g:=Ce) (o:=.cells #[.int .u64 0,.slice none 0 0] 39 (0,0)) (by (with_reducible repeat (first|apply aj|apply ay|apply ak));refine aD ?_ BQ.out _;(with_reducible repeat (first|apply aj|apply ay|apply ak));refine aD ?_ BQ.out _;(with_reducible repeat (first|apply aj|apply ay|apply ak));refine aD ?_ BQ.out _;(with_reducible repeat (first|apply aj|apply ay|apply ak));refine aD ?_ BQ.out _;(with_reducible repeat (first|apply aj|apply ay|apply ak));refine aD ?_ BQ.out _;(with_reducible repeat (first|apply aj|apply ay|apply ak));refine aD ?_ BQ.out _;(with_reducible repeat (first|apply aj|apply ay|apply ak));exact BR.out)) : Ce ≠ BI));have Et:=Aside0.mk ((by rw [hg];exact Nat.ne_of_gt (aW (g:=Ce) (o:=.cells #[.int .u64 0,.slice none 0 0] 39 (0,0)) (by (with_reducible repeat (first|apply aj|apply ay|apply ak));refine aD ?_ BQ.out _;(with_reducible repeat (first|apply aj|apply ay|apply ak));refine aD ?_ BQ.out _;(with_reducible repeat (first|apply aj|apply ay|apply ak));refine aD ?_ BQ.out _;(with_reducible repeat (first|apply aj|apply ay|apply ak));refine aD ?_ BQ.out _;(with_reducible repeat (first|apply aj|apply ay|apply ak));refine aD ?_ BQ.out _;(with_reducible repeat (first|apply aj|apply ay|apply ak));refine aD ?_ BQ.out _;(with_reducible repeat (first|apply aj|apply ay|apply ak));exact BR.out)) : BI ≠ Ce));have Eu:=Aside0.mk ((by rw [hg];exact Nat.ne_of_lt (aW (g:=Cc) (o:=.cells #[.int .u64 BL,BS] 39 (0,0)) (by (with_reducible repeat (first|apply aj|apply ay|apply ak));refine aD ?_ BJ.out _;(with_reducible repeat (first|apply aj|apply ay|apply ak));refine aD ?_ BJ.out _;(with_reducible repeat (first|apply aj|apply ay|apply ak));refine aD ?_ BJ.out _;(with_reducible repeat (first|apply aj|apply ay|apply ak));refine aD ?_ BJ.out _;(with_reducible repeat (first|apply aj|apply ay|apply ak));refine aD ?_ BJ.out _;(with_reducible repeat (first|apply aj|apply ay|apply ak));refine aD ?_ BJ.out _;(with_reducible repeat (first|apply aj|apply ay|apply ak));exact BN.out)) : Cc ≠ BI));have FN:=Aside0.mk ((by rw [hg];exact Nat.ne_of_gt (aW (g:=Cc) (o:=.cells #[.int .u64 BL,BS] 39 (0,0)) (by (with_reducible repeat (first|apply aj|apply ay|apply ak));refine aD ?_ BJ.out _;(with_reducible repeat (first|apply aj|apply ay|apply ak));refine aD ?_ BJ.out _;(with_reducible repeat (first|apply aj|apply ay|apply ak));refine aD ?_ BJ.out _;(with_reducible repeat (first|apply aj|apply ay|apply ak));refine aD ?_ BJ.out _;(with_reducible repeat (first|apply aj|apply ay|apply ak));refine aD ?_ BJ.out _;(with_reducible repeat (first|apply aj|apply ay|apply ak));refine aD ?_ BJ.out _;(with_reducible repeat (first|apply aj|apply ay|apply ak));exact BN.out)) : BI ≠ Cc));have FP:=Aside0.mk ((by rw [hg];exact Nat.ne_of_lt (aW (g:=BU) (o:=.cells #[.string ((aK Bz Bw).f0),.string ((aK Bz Bw).f1),.string ((aK Bz Bw).f2),.int .u8 ((aK Bz Bw).f3),.int .u16 ((aK Bz Bw).f4),.slice CZ ((aK Bz Bw).f5).length CB] 71 (0,0)) (by (with_reducible repeat (first|apply aj|apply ay|apply ak));refine aQ (cs:=#[.string ((aK Bz Bw).f0),.string ((aK Bz Bw).f1),.string ((aK Bz Bw).f2),.int .u8 ((aK Bz Bw).f3),.int .u16 ((aK Bz Bw).f4),.slice none 0 0]) ?_ 5 _ rfl;(with_reducible repeat (first|apply aj|apply ay|apply ak));refine aQ (cs:=#[.string ((aK Bz Bw).f0),.string ((aK Bz Bw).f1),.string ((aK Bz Bw).f2),.int .u8 ((aK Bz Bw).f3),.int .u16 0,.slice none 0 0]) ?_ 4 _ rfl;(with_reducible repeat (first|apply aj|apply ay|apply ak));refine aQ (cs:=#[.string ((aK Bz Bw).f0),.string ((aK Bz Bw).f1),.string ((aK Bz Bw).f2),.int .u8 0,.int .u16 0,.slice none 0 0]) ?_ 3 _ rfl;(with_reducible repeat (first|apply aj|apply ay|apply ak));refine aQ (cs:=#[.string ((aK Bz Bw).f0),.string ((aK Bz Bw).f1),.string (⟨#[]⟩ : ByteArray),.int .u8 0,.int .u16 0,.slice none 0 0]) ?_ 2 _ rfl;(with_reducible repeat (first|apply aj|apply ay|apply ak));refine aQ (cs:=#[.string ((aK Bz Bw).f0),.string (⟨#[]⟩ : ByteArray),.string (⟨#[]⟩ : ByteArray),.int .u8 0,.int .u16 0,.slice none 0 0]) ?_ 1 _ rfl;(with_reducible repeat (first|apply aj|apply ay|apply ak));refine aQ (cs:=#[.string (⟨#[]⟩ : ByteArray),.string (⟨#[]⟩ : ByteArray),.string (⟨#[]⟩ : ByteArray),.int .u8 0,.int .u16 0,.slice none 0 0]) ?_ 0 _ rfl;(with_reducible repeat (first|apply aj|apply ay|apply ak));exact BO.out)) : BU ≠ BI));have FQ:=Aside0.mk ((by rw [hg];exact Nat.ne_of_gt (aW (g:=BU) (o:=.cells #[.string ((aK Bz Bw).f0),.string ((aK Bz Bw).f1),.string ((aK Bz Bw).f2),.int .u8 ((aK Bz Bw).f3),.int .u16 ((aK Bz Bw).f4),.slice CZ ((aK Bz Bw).f5).length CB] 71 (0,0)) (by (with_reducible repeat (first|apply aj|apply ay|apply ak));refine aQ (cs:=#[.string ((aK Bz Bw).f0),.string ((aK Bz Bw).f1),.string ((aK Bz Bw).f2),.int .u8 ((aK Bz Bw).f3),.int .u16 ((aK Bz Bw).f4),.slice none 0 0]) ?_ 5 _ rfl;(with_reducible repeat (first|apply aj|apply ay|apply ak));refine aQ (cs:=#[.string ((aK Bz Bw).f0),.string ((aK Bz Bw).f1),.string ((aK Bz Bw).f2),.int .u8 ((aK Bz Bw).f3),.int .u16 0,.slice none 0 0]) ?_ 4 _ rfl;(with_reducible repeat (first|apply aj|apply ay|apply ak));refine aQ (cs:=#[.string ((aK Bz Bw).f0),.string ((aK Bz Bw).f1),.string ((aK Bz Bw).f2),.int .u8 0,.int .u16 0,.slice none 0 0]) ?_ 3 _ rfl;(with_reducible repeat (first|apply aj|apply ay|apply ak));refine aQ (cs:=#[.string ((aK Bz Bw).f0),.string ((aK Bz Bw).f1),.string (⟨#[]⟩ : ByteArray),.int .u8 0,.int .u16 0,.slice none 0 0]) ?_ 2 _ rfl;(with_reducible repeat (first|apply aj|apply ay|apply ak));refine aQ (cs:=#[.string ((aK Bz Bw).f0),.string (⟨#[]⟩ : ByteArray),.string (⟨#[]⟩ : ByteArray),.int .u8 0,.int .u16 0,.slice none 0 0]) ?_ 1 _ rfl;(with_reducible repeat (first|apply aj|apply ay|apply ak));refine aQ (cs:=#[.string (⟨#[]⟩ : ByteArray),.string (⟨#[]⟩ : ByteArray),.string (⟨#[]⟩ : ByteArray),.int .u8 0,.int .u16 0,.slice none 0 0]) ?_ 0 _ rfl;(with_reducible repeat (first|apply aj|apply ay|apply ak));exact BO.out)) : BI ≠ BU));clear BH;clear BK;clear BR;clear BN;clear BO;clear HB;have BH:=CU;have BK:=CV;have BR:=CW;have BN:=CX;have BO:=DK;have HB:=DL;have BG:=DN;have Ld:=Eo;have Le:=Ep;have Cm:=EU;have Dp:=Er;have Cn:=Es;have Dq:=Et;have Co:=Eu;have Dr:=FN;have Cq:=FP;have Dt:=FQ;clear CU CV CW CX DK DL DN Eo Ep EU Er Es Et Eu FN FP FQ;clear hb hbox hg;have I6:=Dp.out;have I7:=Cm.out;have Lf:=Dq.out;have Lg:=Cn.out;have Lh:=Dr.out;have Li:=Co.out;have Lj:=Dt.out;have Ll:=Cq.out;have Gu : FE.cell? ⟨BI,0,none⟩ = some (.string (⟨#[]⟩ : ByteArray)):=(ah BG.out 0).trans rfl;have Gv : FE.cell? ⟨BI,1,none⟩ = some (.string (⟨#[]⟩ : ByteArray)):=(ah BG.out 1).trans rfl;have Gw : FE.cell? ⟨BI,2,none⟩ = some (.string (⟨#[]⟩ : ByteArray)):=(ah BG.out 2).trans rfl;have Gx : FE.cell? ⟨BI,3,none⟩ = some (.int .u8 0):=(ah BG.out 3).trans rfl;have Gy : FE.cell? ⟨BI,4,none⟩ = some (.int .u16 0):=(ah BG.out 4).trans rfl;have Gz : FE.cell? ⟨BI,5,none⟩ = some (.slice none 0 0):=(ah BG.out 5).trans rfl;have GA:=av BG.out 0;have GD:=av BG.out 1;have GI:=av BG.out 2;have GJ:=av BG.out 3;have GK:=av BG.out 4;have GL:=av BG.out 5;have GN : FE.cell? ⟨BU,0,none⟩ = some (.string ((aK Bz Bw).f0)):=(ah BO.out 0).trans rfl;have GQ : FE.cell? ⟨BU,1,none⟩ = some (.string ((aK Bz Bw).f1)):=(ah BO.out 1).trans rfl;have GR : FE.cell? ⟨BU,2,none⟩ = some (.string ((aK Bz Bw).f2)):=(ah BO.out 2).trans rfl;have GU : FE.cell? ⟨BU,3,none⟩ = some (.int .u8 ((aK Bz Bw).f3)):=(ah BO.out 3).trans rfl;have GV : FE.cell? ⟨BU,4,none⟩ = some (.int .u16 ((aK Bz Bw).f4)):=(ah BO.out 4).trans rfl;have GX : FE.cell? ⟨BU,5,none⟩ = some (.slice CZ ((aK Bz Bw).f5).length CB):=(ah BO.out 5).trans rfl;have GY:=av BO.out 0;have GZ:=av BO.out 1;have G6:=av BO.out 2;have G7:=av BO.out 3;have G8:=av BO.out 4;have G9:=av BO.out 5))
      go_loopg [33] k1 (fun kq v33 w'=>∃ (Ci : Int) (Cg : List (S89)) (Cr : Value),v33 = .int .i64 Ci ∧ Aside0 (bf.l1 kq Bz (Bz.length : Int) Bw ((aK Bz Bw).f5) (((aK Bz Bw).f5).length : Int) Ci BL Cj ((aK Bz Bw).f0) ((aK Bz Bw).f1) ((aK Bz Bw).f2) ((aK Bz Bw).f3) ((aK Bz Bw).f4) Cg = some (r1,r2)) ∧ Aside0 (kq ≤ k1) ∧ Aside0 (Kd.S k88 88 w' w.heap.size (fun k_=>some k_ ≠ (Cr : Value).ownBlock ∧ k_ ≠ BI) BS Cj) ∧ Aside0 (Kd.R k89 89 w' w.heap.size (fun _=>True) Cr Cg) ∧ Aside0 (w'.heap[Cb]? = some (.cells #[.int .u64 BL,(.slice (some CP) Bz.length Cx)] 29 (0,0))) ∧ Aside0 (w'.heap[Ce]? = some (.cells #[.int .u64 0,(.slice none 0 0)] 39 (0,0))) ∧ Aside0 (w'.heap[Cc]? = some (.cells #[.int .u64 BL,BS] 39 (0,0))) ∧ Aside0 (w'.heap[BU]? = some (.cells #[.string ((aK Bz Bw).f0),.string ((aK Bz Bw).f1),.string ((aK Bz Bw).f2),.int .u8 ((aK Bz Bw).f3),.int .u16 ((aK Bz Bw).f4),(.slice CZ ((aK Bz Bw).f5).length CB)] 71 (0,0))) ∧ Aside0 (w'.heap[BI]? = some (.cells #[.string ((aK Bz Bw).f0),.string ((aK Bz Bw).f1),.string ((aK Bz Bw).f2),.int .u8 ((aK Bz Bw).f3),.int .u16 ((aK Bz Bw).f4),Cr] 88 (0,0))) ∧ Aside0 (Below w.heap.size w w'))
      case atStart=>exact ⟨(0),(([] : List (S89))),(.slice none 0 0),(by first|rfl|(simp;done)|(simp [*];done)),H',⟨Nat.le_refl _⟩,⟨by (with_reducible repeat (first|apply Kd.dw|apply Kd.dx|apply Kd.dN));exact Kd.fV (Kd.dB (p:=⟨BI,5,none⟩) (Kd.dB (p:=⟨BI,4,none⟩) (Kd.dB (p:=⟨BI,3,none⟩) (Kd.dB (p:=⟨BI,2,none⟩) (Kd.dB (p:=⟨BI,1,none⟩) (Kd.dB (p:=⟨BI,0,none⟩) (Kd.fV BH.out (fun k_ hk=>(⟨hk,hk.2⟩ : _ ∧ k_ ≠ BI))) (fun _ hk=>hk.2) (.string ((aK Bz Bw).f0))) (fun _ hk=>hk.2) (.string ((aK Bz Bw).f1))) (fun _ hk=>hk.2) (.string ((aK Bz Bw).f2))) (fun _ hk=>hk.2) (.int .u8 ((aK Bz Bw).f3))) (fun _ hk=>hk.2) (.int .u16 ((aK Bz Bw).f4))) (fun _ hk=>hk.2) (.slice none 0 0)) (fun _ hk=>⟨(by simp [Value.ownBlock]),hk.1.2⟩)⟩,⟨by first|exact Kd.je _ _ _ _ _|exact Kd.jw _ _ _ _ _|exact Kd.kR _ _ _ _ _|exact Kd.lT _ _ _ _ _|exact Kd.lW _ _ _ _ _⟩,⟨by (with_reducible repeat (first|apply aj|apply ay|apply ak));refine aD ?_ Cm.out _;(with_reducible repeat (first|apply aj|apply ay|apply ak));refine aD ?_ Cm.out _;(with_reducible repeat (first|apply aj|apply ay|apply ak));refine aD ?_ Cm.out _;(with_reducible repeat (first|apply aj|apply ay|apply ak));refine aD ?_ Cm.out _;(with_reducible repeat (first|apply aj|apply ay|apply ak));refine aD ?_ Cm.out _;(with_reducible repeat (first|apply aj|apply ay|apply ak));refine aD ?_ Cm.out _;(with_reducible repeat (first|apply aj|apply ay|apply ak));exact BK.out⟩,⟨by (with_reducible repeat (first|apply aj|apply ay|apply ak));refine aD ?_ Cn.out _;(with_reducible repeat (first|apply aj|apply ay|apply ak));refine aD ?_ Cn.out _;(with_reducible repeat (first|apply aj|apply ay|apply ak));refine aD ?_ Cn.out _;(with_reducible repeat (first|apply aj|apply ay|apply ak));refine aD ?_ Cn.out _;(with_reducible repeat (first|apply aj|apply ay|apply ak));refine aD ?_ Cn.out _;(with_reducible repeat (first|apply aj|apply ay|apply ak));refine aD ?_ Cn.out _;(with_reducible repeat (first|apply aj|apply ay|apply ak));exact BR.out⟩,⟨by (with_reducible repeat (first|apply aj|apply ay|apply ak));refine aD ?_ Co.out _;(with_reducible repeat (first|apply aj|apply ay|apply ak));refine aD ?_ Co.out _;(with_reducible repeat (first|apply aj|apply ay|apply ak));refine aD ?_ Co.out _;(with_reducible repeat (first|apply aj|apply ay|apply ak));refine aD ?_ Co.out _;(with_reducible repeat (first|apply aj|apply ay|apply ak));refine aD ?_ Co.out _;(with_reducible repeat (first|apply aj|apply ay|apply ak));refine aD ?_ Co.out _;(with_reducible repeat (first|apply aj|apply ay|apply ak));exact BN.out⟩,⟨by (with_reducible repeat (first|apply aj|apply ay|apply ak));refine aD ?_ Cq.out _;(with_reducible repeat (first|apply aj|apply ay|apply ak));refine aD ?_ Cq.out _;(with_reducible repeat (first|apply aj|apply ay|apply ak));refine aD ?_ Cq.out _;(with_reducible repeat (first|apply aj|apply ay|apply ak));refine aD ?_ Cq.out _;(with_reducible repeat (first|apply aj|apply ay|apply ak));refine aD ?_ Cq.out _;(with_reducible repeat (first|apply aj|apply ay|apply ak));refine aD ?_ Cq.out _;(with_reducible repeat (first|apply aj|apply ay|apply ak));exact BO.out⟩,⟨by (with_reducible repeat (first|apply aj|apply ay|apply ak));refine aQ (cs:=#[.string ((aK Bz Bw).f0),.string ((aK Bz Bw).f1),.string ((aK Bz Bw).f2),.int .u8 ((aK Bz Bw).f3),.int .u16 ((aK Bz Bw).f4),.slice none 0 0]) ?_ 5 _ rfl;(with_reducible repeat (first|apply aj|apply ay|apply ak));refine aQ (cs:=#[.string ((aK Bz Bw).f0),.string ((aK Bz Bw).f1),.string ((aK Bz Bw).f2),.int .u8 ((aK Bz Bw).f3),.int .u16 0,.slice none 0 0]) ?_ 4 _ rfl;(with_reducible repeat (first|apply aj|apply ay|apply ak));refine aQ (cs:=#[.string ((aK Bz Bw).f0),.string ((aK Bz Bw).f1),.string ((aK Bz Bw).f2),.int .u8 0,.int .u16 0,.slice none 0 0]) ?_ 3 _ rfl;(with_reducible repeat (first|apply aj|apply ay|apply ak));refine aQ (cs:=#[.string ((aK Bz Bw).f0),.string ((aK Bz Bw).f1),.string (⟨#[]⟩ : ByteArray),.int .u8 0,.int .u16 0,.slice none 0 0]) ?_ 2 _ rfl;(with_reducible repeat (first|apply aj|apply ay|apply ak));refine aQ (cs:=#[.string ((aK Bz Bw).f0),.string (⟨#[]⟩ : ByteArray),.string (⟨#[]⟩ : ByteArray),.int .u8 0,.int .u16 0,.slice none 0 0]) ?_ 1 _ rfl;(with_reducible repeat (first|apply aj|apply ay|apply ak));refine aQ (cs:=#[.string (⟨#[]⟩ : ByteArray),.string (⟨#[]⟩ : ByteArray),.string (⟨#[]⟩ : ByteArray),.int .u8 0,.int .u16 0,.slice none 0 0]) ?_ 0 _ rfl;(with_reducible repeat (first|apply aj|apply ay|apply ak));exact BG.out⟩,⟨hb_⟩⟩
      case round =>
       clear H'
       try clear c1
       try clear p1
       try clear q1
       try clear hx1
       try clear c2
       try clear p2
       try clear c4
       try clear c7
       try clear c8
       try clear c10
       try clear c11
       try clear c11b0
       try clear c12
       try clear c12b0
       try clear c13
       try clear c13b0
       try clear c15
       try clear c16
       try clear c17
       try clear c19
       try clear Na
       try clear Nb
       try clear M7
       try clear c20
       try clear c21
       try clear IG
       try clear c23
       try clear EW
       try clear EX
       try clear Gg
       try clear Gh
       try clear Gi
       try clear Gj
       try clear Gl
       try clear Gm
       try clear Gu
       try clear Gv
       try clear Gw
       try clear Gx
       try clear Gy
       try clear Gz
       try clear GN
       try clear GQ
       try clear GR
       try clear GU
       try clear GV
       try clear GX
       try clear FH
       try clear FI
       try clear D7
       try clear D8
       try clear EY
       try clear EZ
       try clear Gn
       try clear Gp
       try clear Gq
       try clear Gr
       try clear Gs
       try clear Gt
       try clear GA
       try clear GD
       try clear GI
       try clear GJ
       try clear GK
       try clear GL
       try clear GY
       try clear GZ
       try clear G6
       try clear G7
       try clear G8
       try clear G9
       try clear FJ
       try clear FL
       try clear D9
       try clear Ea
       try clear DV
       try clear DW
       try clear DX
       try clear DY
       try clear DZ
       try clear D5
       try clear Gc
       try clear p2
       try clear Gd
       obtain ⟨Ci,Cg,Cr,rfl,HA,FR,BH,Ca,BK,BR,BN,BO,BG,HB⟩:=hrel
       cases gk with
       | zero=>exact absurd HA.out (by simp [bf.l1])
       | succ k2 =>
        have H:=HA.out
        clear HA
        simp only [bf.l1] at H
        by_cases IY : Ci < (((aK Bz Bw).f5).length : Int)
        ·rw [if_pos IY] at H
         have c26b0 : decide (Ci < (((aK Bz Bw).f5).length : Int)) = true:=decide_eq_true IY
         clear IY
         by_cases Jo : 0 ≤ Ci
         ·rw [if_pos Jo] at H
          have c27b0 : decide (0 ≤ Ci) = true:=decide_eq_true Jo
          clear Jo
          by_cases c28 : Ci < (((aK Bz Bw).f5).length : Int)
          ·rw [if_pos c28] at H
           have c28b0 : decide (Ci < (((aK Bz Bw).f5).length : Int)) = true:=decide_eq_true c28
           clear c28
           by_cases Jp : Cg.length < 4398046511104
           ·rw [if_pos Jp] at H
            have I8:=Aside0.mk Jp
            clear Jp
            obtain ⟨FT,Ew⟩ : ∃ y_ : List (S89),y_ = (Cg ++ [(⟨(fZ ((aK Bz Bw).f5) Ci).f0,(fZ ((aK Bz Bw).f5) Ci).f1⟩ : S89)]):=⟨_,rfl⟩
            replace H : (bf.l1 k2 Bz (Bz.length : Int) Bw ((aK Bz Bw).f5) (((aK Bz Bw).f5).length : Int) (wrap64 (Ci + 1)) BL Cj ((aK Bz Bw).f0) ((aK Bz Bw).f1) ((aK Bz Bw).f2) ((aK Bz Bw).f3) ((aK Bz Bw).f4) FT) = some (r1,r2):=by first|(rw [Ew];with_reducible exact H)|(have II:=(Option.bind_some _ _).symm.trans H;rw [Ew];with_reducible exact II)|(have II:=(Option.bind_some _ _).symm.trans H;with_reducible exact II)|with_reducible exact H|(rw [Ew];exact H)|exact H
            have I9:=Aside0.mk Ew
            clear Ew
            have H':=Aside0.mk H
            clear H
            have IJ : 0 ≤ (Ci : Int):=of_decide_eq_true (by first|(with_reducible assumption)|assumption)
            have IK : Ci < (((aK Bz Bw).f5).length : Int):=of_decide_eq_true (by first|(with_reducible assumption)|assumption)
            obtain ⟨E9,KM,Eh,Ei⟩:=vQ Gf.out Ci IJ IK
            cases KM
            replace Eh:=(HB.out.cell (World.block_lt_of_cell? w _ Eh)).trans Eh
            replace Ei:=(HB.out.cell (World.block_lt_of_cell? w _ Ei)).trans Ei
            replace IJ:=eq_true IJ
            replace IK:=eq_true IK
            go_wp2_with (first|((with_reducible refine bN (N:=8) rfl ?_);refine bT ?hg (N:=8) ?hd (cs:=#[.string (⟨#[]⟩ : ByteArray),.string (⟨#[]⟩ : ByteArray)]) (t:=73) ?hr ?_;(case hd=>rfl);(case hg=>rfl);(case hr=>first|(go_simp;done)|(go_simp;rfl));intro Cv hg Iq hbox hb;have CU:=Aside0.mk (Kd.fB (by (with_reducible repeat (first|apply Kd.dw|apply Kd.dx|apply Kd.dN));exact BH.out) hb);have CV:=Aside0.mk (Kd.iE (kr_ Ca.out) hb);have CW:=Aside0.mk (aJ (g:=Cb) (o:=.cells #[.int .u64 BL,.slice (some CP) Bz.length Cx] 29 (0,0)) (bk_ BK.out) hb);have CX:=Aside0.mk (aJ (g:=Ce) (o:=.cells #[.int .u64 0,.slice none 0 0] 39 (0,0)) (bk_ BR.out) hb);have DK:=Aside0.mk (aJ (g:=Cc) (o:=.cells #[.int .u64 BL,BS] 39 (0,0)) (bk_ BN.out) hb);have DL:=Aside0.mk (aJ (g:=BU) (o:=.cells #[.string ((aK Bz Bw).f0),.string ((aK Bz Bw).f1),.string ((aK Bz Bw).f2),.int .u8 ((aK Bz Bw).f3),.int .u16 ((aK Bz Bw).f4),.slice (some E9) ((aK Bz Bw).f5).length CB] 71 (0,0)) (bk_ BO.out) hb);have DN:=Aside0.mk (aJ (g:=BI) (o:=.cells #[.string ((aK Bz Bw).f0),.string ((aK Bz Bw).f1),.string ((aK Bz Bw).f2),.int .u8 ((aK Bz Bw).f3),.int .u16 ((aK Bz Bw).f4),Cr] 88 (0,0)) (bk_ BG.out) hb);have Eo:=Aside0.mk (aN hb_ hb);have Ep:=Aside0.mk (hbox);have EU:=Aside0.mk ((by rw [hg];exact (aR hb_) : w.heap.size ≤ Cv));have Er:=Aside0.mk ((by rw [hg];exact (aR hb_) : w.heap.size ≤ Cv));have Es:=Aside0.mk ((by rw [hg];exact Nat.ne_of_lt (aW (g:=Cb) (o:=.cells #[.int .u64 BL,.slice (some CP) Bz.length Cx] 29 (0,0)) (bk_ BK.out)) : Cb ≠ Cv));have Et:=Aside0.mk ((by rw [hg];exact Nat.ne_of_gt (aW (g:=Cb) (o:=.cells #[.int .u64 BL,.slice (some CP) Bz.length Cx] 29 (0,0)) (bk_ BK.out)) : Cv ≠ Cb));have Eu:=Aside0.mk ((by rw [hg];exact Nat.ne_of_lt (aW (g:=Ce) (o:=.cells #[.int .u64 0,.slice none 0 0] 39 (0,0)) (bk_ BR.out)) : Ce ≠ Cv));have FN:=Aside0.mk ((by rw [hg];exact Nat.ne_of_gt (aW (g:=Ce) (o:=.cells #[.int .u64 0,.slice none 0 0] 39 (0,0)) (bk_ BR.out)) : Cv ≠ Ce));have FP:=Aside0.mk ((by rw [hg];exact Nat.ne_of_lt (aW (g:=Cc) (o:=.cells #[.int .u64 BL,BS] 39 (0,0)) (bk_ BN.out)) : Cc ≠ Cv));have FQ:=Aside0.mk ((by rw [hg];exact Nat.ne_of_gt (aW (g:=Cc) (o:=.cells #[.int .u64 BL,BS] 39 (0,0)) (bk_ BN.out)) : Cv ≠ Cc));have Ja:=Aside0.mk ((by rw [hg];exact Nat.ne_of_lt (aW (g:=BU) (o:=.cells #[.string ((aK Bz Bw).f0),.string ((aK Bz Bw).f1),.string ((aK Bz Bw).f2),.int .u8 ((aK Bz Bw).f3),.int .u16 ((aK Bz Bw).f4),.slice (some E9) ((aK Bz Bw).f5).length CB] 71 (0,0)) (bk_ BO.out)) : BU ≠ Cv));have Jb:=Aside0.mk ((by rw [hg];exact Nat.ne_of_gt (aW (g:=BU) (o:=.cells #[.string ((aK Bz Bw).f0),.string ((aK Bz Bw).f1),.string ((aK Bz Bw).f2),.int .u8 ((aK Bz Bw).f3),.int .u16 ((aK Bz Bw).f4),.slice (some E9) ((aK Bz Bw).f5).length CB] 71 (0,0)) (bk_ BO.out)) : Cv ≠ BU));have Jc:=Aside0.mk ((by rw [hg];exact Nat.ne_of_lt (aW (g:=BI) (o:=.cells #[.string ((aK Bz Bw).f0),.string ((aK Bz Bw).f1),.string ((aK Bz Bw).f2),.int .u8 ((aK Bz Bw).f3),.int .u16 ((aK Bz Bw).f4),Cr] 88 (0,0)) (bk_ BG.out)) : BI ≠ Cv));have Jd:=Aside0.mk ((by rw [hg];exact Nat.ne_of_gt (aW (g:=BI) (o:=.cells #[.string ((aK Bz Bw).f0),.string ((aK Bz Bw).f1),.string ((aK Bz Bw).f2),.int .u8 ((aK Bz Bw).f3),.int .u16 ((aK Bz Bw).f4),Cr] 88 (0,0)) (bk_ BG.out)) : Cv ≠ BI));clear BH;clear Ca;clear BK;clear BR;clear BN;clear BO;clear BG;clear HB;have BH:=CU;have Ca:=CV;have BK:=CW;have BR:=CX;have BN:=DK;have BO:=DL;have BG:=DN;have HB:=Eo;have CY:=Ep;have Lm:=EU;have Lp:=Er;have Du:=Es;have Fv:=Et;have Dv:=Eu;have Fw:=FN;have Dw:=FP;have Fx:=FQ;have Dx:=Ja;have Fy:=Jb;have Dy:=Jc;have Fz:=Jd;clear CU CV CW CX DK DL DN Eo Ep EU Er Es Et Eu FN FP FQ Ja Jb Jc Jd;clear hb hbox hg;have Lr:=Fv.out;have Ls:=Du.out;have Lu:=Fw.out;have Lv:=Dv.out;have Lx:=Fx.out;have LA:=Dw.out;have LC:=Fy.out;have LD:=Dx.out;have LG:=Fz.out;have LJ:=Dy.out;have Jq : Iq.cell? ⟨Cv,0,none⟩ = some (.string (⟨#[]⟩ : ByteArray)):=(ah CY.out 0).trans rfl;have Jr : Iq.cell? ⟨Cv,1,none⟩ = some (.string (⟨#[]⟩ : ByteArray)):=(ah CY.out 1).trans rfl;have Js:=av CY.out 0;have Jt:=av CY.out 1;have LK:=Dp.out;have LP:=Cm.out;have LQ:=Dq.out;have LU:=Cn.out;have LV:=Dr.out;have LW:=Co.out;have LY:=Dt.out;have LZ:=Cq.out;have Ju : Iq.cell? ⟨BI,0,none⟩ = some (.string ((aK Bz Bw).f0)):=(ah BG.out 0).trans rfl;have Jv : Iq.cell? ⟨BI,1,none⟩ = some (.string ((aK Bz Bw).f1)):=(ah BG.out 1).trans rfl;have Jw : Iq.cell? ⟨BI,2,none⟩ = some (.string ((aK Bz Bw).f2)):=(ah BG.out 2).trans rfl;have Jy : Iq.cell? ⟨BI,3,none⟩ = some (.int .u8 ((aK Bz Bw).f3)):=(ah BG.out 3).trans rfl;have Jz : Iq.cell? ⟨BI,4,none⟩ = some (.int .u16 ((aK Bz Bw).f4)):=(ah BG.out 4).trans rfl;have JA : Iq.cell? ⟨BI,5,none⟩ = some (Cr):=(ah BG.out 5).trans rfl;have JB:=av BG.out 0;have JC:=av BG.out 1;have JD:=av BG.out 2;have JE:=av BG.out 3;have JF:=av BG.out 4;have JG:=av BG.out 5)|((with_reducible refine jF (b:=.append) (xs:=#[.tmp 38,.tmp 40]) rfl ?_);at_builtin;refine Kd.jW k89 (w0:=w) w.heap.size rfl (.tmp 38) (.tmp 40) 86 89 (.agg #[(.string ⟨#[]⟩),(.string ⟨#[]⟩)]) 32 rfl Tryz.underlying86 vI rfl (by decide) (by omega) Cr Cg (⟨(fZ ((aK Bz Bw).f5) Ci).f0,(fZ ((aK Bz Bw).f5) Ci).f1⟩ : S89) [.string ((fZ ((aK Bz Bw).f5) Ci).f0),.string ((fZ ((aK Bz Bw).f5) Ci).f1)] (fun _=>True) (fun _=>False) rfl (by first|(go_simp;done)|(go_simp;rfl)) ?aP (fun _ hk=>hk.elim) ?aF ?aO ?aB ?aS ?aL ?_;(case aP=>exact tF _ _ _ (⟨(fZ ((aK Bz Bw).f5) Ci).f0,(fZ ((aK Bz Bw).f5) Ci).f1⟩ : S89));(case aB=>exact hb_);(case aF=>exact (fun _ _=>trivial));(case aO=>exact (by (with_reducible repeat (first|apply Kd.kC|apply Kd.kD|apply Kd.l7));exact Kd.gM (Kd.kI (p:=⟨Cv,1,none⟩) (Kd.kI (p:=⟨Cv,0,none⟩) (Kd.jm Ca.out CY.out (by decide)) (fun _ hk=>hk.2) (.string ((fZ ((aK Bz Bw).f5) Ci).f0))) (fun _ hk=>hk.2) (.string ((fZ ((aK Bz Bw).f5) Ci).f1))) (fun _ hk=>trivial)));(case aS=>exact (aR hb_));(case aL=>have:=I8.out;omega);intro v203 IZ ho hb hg hat;rw [← I9.out] at ho;have CU:=Aside0.mk (Kd.sS (ok:=(fun k_=>k_ ≠ BI)) (by (with_reducible repeat (first|apply Kd.dw|apply Kd.dx|apply Kd.dN));exact Kd.fV (Kd.dB (p:=⟨Cv,1,none⟩) (Kd.dB (p:=⟨Cv,0,none⟩) (Kd.gV BH.out CY.out (by decide)) (fun _ hk=>hk.2) (.string ((fZ ((aK Bz Bw).f5) Ci).f0))) (fun _ hk=>hk.2) (.string ((fZ ((aK Bz Bw).f5) Ci).f1))) (fun _ hk=>⟨hk.1.2,hk.1.1⟩)) hg hat);have CV:=Aside0.mk (eH (g:=Cb) (o:=.cells #[.int .u64 BL,.slice (some CP) Bz.length Cx] 29 (0,0)) (by (with_reducible repeat (first|apply aj|apply ay|apply ak));refine aD ?_ Du.out _;(with_reducible repeat (first|apply aj|apply ay|apply ak));refine aD ?_ Du.out _;(with_reducible repeat (first|apply aj|apply ay|apply ak));exact BK.out) hg (Kd.jE Ca.out BK.out (by decide)));have CW:=Aside0.mk (eH (g:=Ce) (o:=.cells #[.int .u64 0,.slice none 0 0] 39 (0,0)) (by (with_reducible repeat (first|apply aj|apply ay|apply ak));refine aD ?_ Dv.out _;(with_reducible repeat (first|apply aj|apply ay|apply ak));refine aD ?_ Dv.out _;(with_reducible repeat (first|apply aj|apply ay|apply ak));exact BR.out) hg (Kd.jE Ca.out BR.out (by decide)));have CX:=Aside0.mk (eH (g:=Cc) (o:=.cells #[.int .u64 BL,BS] 39 (0,0)) (by (with_reducible repeat (first|apply aj|apply ay|apply ak));refine aD ?_ Dw.out _;(with_reducible repeat (first|apply aj|apply ay|apply ak));refine aD ?_ Dw.out _;(with_reducible repeat (first|apply aj|apply ay|apply ak));exact BN.out) hg (Kd.jE Ca.out BN.out (by decide)));have DK:=Aside0.mk (eH (g:=BU) (o:=.cells #[.string ((aK Bz Bw).f0),.string ((aK Bz Bw).f1),.string ((aK Bz Bw).f2),.int .u8 ((aK Bz Bw).f3),.int .u16 ((aK Bz Bw).f4),.slice (some E9) ((aK Bz Bw).f5).length CB] 71 (0,0)) (by (with_reducible repeat (first|apply aj|apply ay|apply ak));refine aD ?_ Dx.out _;(with_reducible repeat (first|apply aj|apply ay|apply ak));refine aD ?_ Dx.out _;(with_reducible repeat (first|apply aj|apply ay|apply ak));exact BO.out) hg (Kd.jE Ca.out BO.out (by decide)));have DL:=Aside0.mk (eH (g:=BI) (o:=.cells #[.string ((aK Bz Bw).f0),.string ((aK Bz Bw).f1),.string ((aK Bz Bw).f2),.int .u8 ((aK Bz Bw).f3),.int .u16 ((aK Bz Bw).f4),Cr] 88 (0,0)) (by (with_reducible repeat (first|apply aj|apply ay|apply ak));refine aD ?_ Dy.out _;(with_reducible repeat (first|apply aj|apply ay|apply ak));refine aD ?_ Dy.out _;(with_reducible repeat (first|apply aj|apply ay|apply ak));exact BG.out) hg (Kd.jE Ca.out BG.out (by decide)));have DN:=Aside0.mk (eH (g:=Cv) (o:=.cells #[.string ((fZ ((aK Bz Bw).f5) Ci).f0),.string ((fZ ((aK Bz Bw).f5) Ci).f1)] 73 (0,0)) (by (with_reducible repeat (first|apply aj|apply ay|apply ak));refine aQ (cs:=#[.string ((fZ ((aK Bz Bw).f5) Ci).f0),.string (⟨#[]⟩ : ByteArray)]) ?_ 1 _ rfl;(with_reducible repeat (first|apply aj|apply ay|apply ak));refine aQ (cs:=#[.string (⟨#[]⟩ : ByteArray),.string (⟨#[]⟩ : ByteArray)]) ?_ 0 _ rfl;(with_reducible repeat (first|apply aj|apply ay|apply ak));exact CY.out) hg (Kd.jE Ca.out CY.out (by decide)));have Eo:=Aside0.mk (hb);have Ep:=Aside0.mk (ho);clear BH;clear BK;clear BR;clear BN;clear BO;clear BG;clear CY;clear HB;clear Ca;have BH:=CU;have BK:=CV;have BR:=CW;have BN:=CX;have BO:=DK;have BG:=DL;have CY:=DN;have HB:=Eo;have Ir:=Ep;clear CU CV CW CX DK DL DN Eo Ep;clear ho hb hg hat;obtain ⟨IL,IQ,KN⟩:=Kd.iJ Ir.out;subst KN;have JH : IZ.cell? ⟨BI,0,none⟩ = some (.string ((aK Bz Bw).f0)):=(ah BG.out 0).trans rfl;have JI : IZ.cell? ⟨BI,1,none⟩ = some (.string ((aK Bz Bw).f1)):=(ah BG.out 1).trans rfl;have JJ : IZ.cell? ⟨BI,2,none⟩ = some (.string ((aK Bz Bw).f2)):=(ah BG.out 2).trans rfl;have JK : IZ.cell? ⟨BI,3,none⟩ = some (.int .u8 ((aK Bz Bw).f3)):=(ah BG.out 3).trans rfl;have JL : IZ.cell? ⟨BI,4,none⟩ = some (.int .u16 ((aK Bz Bw).f4)):=(ah BG.out 4).trans rfl;have JM : IZ.cell? ⟨BI,5,none⟩ = some (Cr):=(ah BG.out 5).trans rfl;have JN:=av BG.out 0;have JO:=av BG.out 1;have JQ:=av BG.out 2;have JR:=av BG.out 3;have JU:=av BG.out 4;have JV:=av BG.out 5))
            go_roundg k2
            case measure=>have:=FM.out;have:=FR.out;omega
            case rel=>exact ⟨(wrap64 (Ci + 1)),(FT),(.slice IL FT.length IQ),(by first|rfl|(simp;done)|(simp [*];done)),H',⟨by have:=FM.out;have:=FR.out;omega⟩,⟨by (with_reducible repeat (first|apply Kd.dw|apply Kd.dx|apply Kd.dN));exact Kd.fV (Kd.dB (p:=⟨BI,5,none⟩) (Kd.fV BH.out (fun k_ hk=>(⟨hk,hk.1⟩ : _ ∧ k_ ≠ BI))) (fun _ hk=>hk.2) (.slice IL FT.length IQ)) (fun _ hk=>⟨hk.1.2,hk.1.1⟩)⟩,⟨by (with_reducible repeat (first|apply Kd.kC|apply Kd.kD|apply Kd.l7));exact Kd.gM (Kd.kI (p:=⟨BI,5,none⟩) (Kd.jm Ir.out BG.out (by decide)) (fun _ hk=>hk.2) (.slice IL FT.length IQ)) (fun _ hk=>trivial)⟩,⟨by (with_reducible repeat (first|apply aj|apply ay|apply ak));refine aD ?_ Cm.out _;(with_reducible repeat (first|apply aj|apply ay|apply ak));exact BK.out⟩,⟨by (with_reducible repeat (first|apply aj|apply ay|apply ak));refine aD ?_ Cn.out _;(with_reducible repeat (first|apply aj|apply ay|apply ak));exact BR.out⟩,⟨by (with_reducible repeat (first|apply aj|apply ay|apply ak));refine aD ?_ Co.out _;(with_reducible repeat (first|apply aj|apply ay|apply ak));exact BN.out⟩,⟨by (with_reducible repeat (first|apply aj|apply ay|apply ak));refine aD ?_ Cq.out _;(with_reducible repeat (first|apply aj|apply ay|apply ak));exact BO.out⟩,⟨by (with_reducible repeat (first|apply aj|apply ay|apply ak));refine aQ (cs:=#[.string ((aK Bz Bw).f0),.string ((aK Bz Bw).f1),.string ((aK Bz Bw).f2),.int .u8 ((aK Bz Bw).f3),.int .u16 ((aK Bz Bw).f4),Cr]) ?_ 5 _ rfl;(with_reducible repeat (first|apply aj|apply ay|apply ak));exact BG.out⟩,⟨hb_⟩⟩
           ·rw [if_neg Jp] at H
            exact absurd H (by simp)
          ·rw [if_neg c28] at H
           exact absurd H (by simp)
         ·rw [if_neg Jo] at H
          exact absurd H (by simp)
        ·rw [if_neg IY] at H
         have c26b0 : decide (Ci < (((aK Bz Bw).f5).length : Int)) = false:=decide_eq_false IY
         clear IY
         by_cases JW : Cj.length < 1759218604441
         ·rw [if_pos JW] at H
          have Je:=Aside0.mk JW
          clear JW
          obtain ⟨He,Ey⟩ : ∃ y_ : List (S88),y_ = (Cj ++ [(⟨((aK Bz Bw).f0),((aK Bz Bw).f1),((aK Bz Bw).f2),((aK Bz Bw).f3),((aK Bz Bw).f4),Cg⟩ : S88)]):=⟨_,rfl⟩
          replace H : (bf.l0 k2 Bz (Bz.length : Int) (wrap64 (Bw + 1)) BL He) = some (r1,r2):=by first|(rw [Ey];with_reducible exact H)|(have II:=(Option.bind_some _ _).symm.trans H;rw [Ey];with_reducible exact II)|(have II:=(Option.bind_some _ _).symm.trans H;with_reducible exact II)|with_reducible exact H|(rw [Ey];exact H)|exact H
          have Jf:=Aside0.mk Ey
          clear Ey
          have H':=Aside0.mk H
          clear H
          have L6:=Dm.out
          have L8:=Cy.out
          have L9:=Dn.out
          have Ma:=Cz.out
          have Md:=BJ.out
          have Me:=Ed.out
          have Mf:=Co.out
          have Mg:=Dr.out
          have JX : wr.cell? ⟨Cc,0,none⟩ = some (.int .u64 BL):=(ah BN.out 0).trans rfl
          have JY : wr.cell? ⟨Cc,1,none⟩ = some (BS):=(ah BN.out 1).trans rfl
          have JZ:=av BN.out 0
          have J2:=av BN.out 1
          have Mh:=Dp.out
          have Mi:=Cm.out
          have Mj:=Dq.out
          have Mk:=Cn.out
          have Ml:=Dt.out
          have Mq:=Cq.out
          have J3 : wr.cell? ⟨BI,0,none⟩ = some (.string ((aK Bz Bw).f0)):=(ah BG.out 0).trans rfl
          have J4 : wr.cell? ⟨BI,1,none⟩ = some (.string ((aK Bz Bw).f1)):=(ah BG.out 1).trans rfl
          have J5 : wr.cell? ⟨BI,2,none⟩ = some (.string ((aK Bz Bw).f2)):=(ah BG.out 2).trans rfl
          have J6 : wr.cell? ⟨BI,3,none⟩ = some (.int .u8 ((aK Bz Bw).f3)):=(ah BG.out 3).trans rfl
          have J7 : wr.cell? ⟨BI,4,none⟩ = some (.int .u16 ((aK Bz Bw).f4)):=(ah BG.out 4).trans rfl
          have J8 : wr.cell? ⟨BI,5,none⟩ = some (Cr):=(ah BG.out 5).trans rfl
          have J9:=av BG.out 0
          have Ka:=av BG.out 1
          have Ke:=av BG.out 2
          have Kg:=av BG.out 3
          have Kh:=av BG.out 4
          have Ki:=av BG.out 5
          obtain ⟨Hf,Hg,KO⟩:=Kd.iJ Ca.out
          subst KO
          go_wp2_with (first|((with_reducible refine jF (b:=.append) (xs:=#[.tmp 45,.tmp 47]) rfl ?_);at_builtin;refine Kd.qQ k88 (w0:=w) w.heap.size rfl (.tmp 45) (.tmp 47) 37 88 (.agg #[(.string ⟨#[]⟩),(.string ⟨#[]⟩),(.string ⟨#[]⟩),(.int .u8 0),(.int .u16 0),(.slice none 0 0)]) 80 rfl Tryz.underlying37 vH rfl (by decide) (by omega) BS Cj (⟨((aK Bz Bw).f0),((aK Bz Bw).f1),((aK Bz Bw).f2),((aK Bz Bw).f3),((aK Bz Bw).f4),Cg⟩ : S88) [.string ((aK Bz Bw).f0),.string ((aK Bz Bw).f1),.string ((aK Bz Bw).f2),.int .u8 ((aK Bz Bw).f3),.int .u16 ((aK Bz Bw).f4),.slice Hf Cg.length Hg] (fun k_=>k_ ≠ BI) (fun k_=>some k_ = (.slice Hf Cg.length Hg : Value).ownBlock) rfl rfl ?aP (fun k_ hk_=>((Kd.gM (ok':=fun k_=>((fun k_=>k_ ≠ BI)) k_ ∧ some k_ ≠ (BS : Value).ownBlock) (Kd.jm (Kd.mD (Ca.out) (Kd.nP BH.out) (by decide)) BG.out (by decide)) (fun k_ hk=>⟨hk.2,hk.1.2⟩))).1 k_ hk_.symm) ?aF ?aO ?aB ?aS ?aL ?_;(case aP=>exact tH _ _ _ (⟨((aK Bz Bw).f0),((aK Bz Bw).f1),((aK Bz Bw).f2),((aK Bz Bw).f3),((aK Bz Bw).f4),Cg⟩ : S88) (Kd.gM (Kd.qw rfl (Kd.gM (ok':=fun k_=>((fun k_=>k_ ≠ BI)) k_ ∧ some k_ ≠ (BS : Value).ownBlock) (Kd.jm (Kd.mD (Ca.out) (Kd.nP BH.out) (by decide)) BG.out (by decide)) (fun k_ hk=>⟨hk.2,hk.1.2⟩))) (fun _ h_=>h_)));(case aB=>exact hb_);(case aF=>exact (fun k_ hk=>Kd.kN (g:=BI) (o:=.cells #[.string ((aK Bz Bw).f0),.string ((aK Bz Bw).f1),.string ((aK Bz Bw).f2),.int .u8 ((aK Bz Bw).f3),.int .u16 ((aK Bz Bw).f4),.slice Hf Cg.length Hg] 88 (0,0)) (bk_ BG.out) k_ hk));(case aO=>exact (by (with_reducible repeat (first|apply Kd.dw|apply Kd.dx|apply Kd.dN));exact Kd.fV BH.out (fun k_ hk=>⟨hk.2,fun e_=>hk.1 e_⟩)));(case aS=>exact (aR hb_));(case aL=>have:=Je.out;omega);intro v206 Mr ho hb hg hat;rw [← Jf.out] at ho;have CU:=Aside0.mk (eH (g:=Cb) (o:=.cells #[.int .u64 BL,.slice (some CP) Bz.length Cx] 29 (0,0)) (bk_ BK.out) hg (Kd.qO BH.out BK.out (by decide)));have CV:=Aside0.mk (eH (g:=Ce) (o:=.cells #[.int .u64 0,.slice none 0 0] 39 (0,0)) (bk_ BR.out) hg (Kd.qO BH.out BR.out (by decide)));have CW:=Aside0.mk (eH (g:=Cc) (o:=.cells #[.int .u64 BL,BS] 39 (0,0)) (bk_ BN.out) hg (Kd.qO BH.out BN.out (by decide)));have CX:=Aside0.mk (eH (g:=BU) (o:=.cells #[.string ((aK Bz Bw).f0),.string ((aK Bz Bw).f1),.string ((aK Bz Bw).f2),.int .u8 ((aK Bz Bw).f3),.int .u16 ((aK Bz Bw).f4),.slice CZ ((aK Bz Bw).f5).length CB] 71 (0,0)) (bk_ BO.out) hg (Kd.qO BH.out BO.out (by decide)));have DK:=Aside0.mk (eH (g:=BI) (o:=.cells #[.string ((aK Bz Bw).f0),.string ((aK Bz Bw).f1),.string ((aK Bz Bw).f2),.int .u8 ((aK Bz Bw).f3),.int .u16 ((aK Bz Bw).f4),.slice Hf Cg.length Hg] 88 (0,0)) (bk_ BG.out) hg (Kd.vo BH.out (fun _ hk=>hk.2)));have DL:=Aside0.mk (hb);have DN:=Aside0.mk (ho);clear BK;clear BR;clear BN;clear BO;clear BG;clear HB;clear BH;clear Ca;have BK:=CU;have BR:=CV;have BN:=CW;have BO:=CX;have BG:=DK;have HB:=DL;have Iu:=DN;clear CU CV CW CX DK DL DN;clear ho hb hg hat;obtain ⟨Jg,Jh,KP⟩:=Kd.jo Iu.out;subst KP;have Kj : Mr.cell? ⟨Cc,0,none⟩ = some (.int .u64 BL):=(ah BN.out 0).trans rfl;have Kk : Mr.cell? ⟨Cc,1,none⟩ = some (BS):=(ah BN.out 1).trans rfl;have Kl:=av BN.out 0;have Km:=av BN.out 1))
          go_roundg k2
          case measure=>have:=FM.out;have:=FR.out;omega
          case rel=>exact ⟨(wrap64 (Bw + 1)),(He),(.slice Jg He.length Jh),(by first|rfl|(simp;done)|(simp [*];done)),H',⟨by have:=FM.out;have:=FR.out;omega⟩,⟨by (with_reducible repeat (first|apply Kd.dw|apply Kd.dx|apply Kd.dN));exact Kd.fV (Kd.dB (p:=⟨Cc,1,none⟩) (Kd.gV Iu.out BN.out (by decide)) (fun _ hk=>hk.2) (.slice Jg He.length Jh)) (fun _ hk=>trivial)⟩,⟨by (with_reducible repeat (first|apply aj|apply ay|apply ak));refine aD ?_ Cy.out _;(with_reducible repeat (first|apply aj|apply ay|apply ak));exact BK.out⟩,⟨by (with_reducible repeat (first|apply aj|apply ay|apply ak));refine aD ?_ Cz.out _;(with_reducible repeat (first|apply aj|apply ay|apply ak));exact BR.out⟩,⟨by (with_reducible repeat (first|apply aj|apply ay|apply ak));refine aQ (cs:=#[.int .u64 BL,BS]) ?_ 1 _ rfl;(with_reducible repeat (first|apply aj|apply ay|apply ak));exact BN.out⟩,⟨hb_⟩⟩
         ·rw [if_neg JW] at H
          exact absurd H (by simp)
     ·rw [if_neg c13] at H
      exact absurd H (by simp)
    ·rw [if_neg c12] at H
     exact absurd H (by simp)
   ·rw [if_neg c11] at H
    have c11b0 : decide (Bw < (Bz.length : Int)) = false:=decide_eq_false c11
    clear c11
    simp only [Option.some.injEq,Prod.mk.injEq] at H
    obtain ⟨rfl,rfl⟩:=H
    have Ms:=Dm.out
    have Mt:=Cy.out
    have Mv:=Dn.out
    have Mw:=Cz.out
    have Kn : wr.cell? ⟨Cc,0,none⟩ = some (.int .u64 BL):=(ah BN.out 0).trans rfl
    have Ko : wr.cell? ⟨Cc,1,none⟩ = some (BS):=(ah BN.out 1).trans rfl
    have Kq:=av BN.out 0
    have Kr:=av BN.out 1
    have Mx:=Ec.out
    have MB:=Eb.out
    have Kt : wr.cell? ⟨Ce,0,none⟩ = some (.int .u64 0):=(ah BR.out 0).trans rfl
    have Ku : wr.cell? ⟨Ce,1,none⟩ = some (.slice none 0 0):=(ah BR.out 1).trans rfl
    have Kv:=av BR.out 0
    have Kw:=av BR.out 1
    obtain ⟨Ji,Jj,KQ⟩:=Kd.jo BH.out
    subst KQ
    go_wp2
    refine bodyPost_ret (results_cell_row rfl _ _ Ce 39 #[.int .u64 BL,.slice Ji Cj.length Jj] (0,0) _ rfl (by (with_reducible repeat (first|apply aj|apply ay|apply ak));refine aQ (cs:=#[.int .u64 BL,.slice none 0 0]) ?_ 1 _ rfl;(with_reducible repeat (first|apply aj|apply ay|apply ak));refine aQ (cs:=#[.int .u64 0,.slice none 0 0]) ?_ 0 _ rfl;(with_reducible repeat (first|apply aj|apply ay|apply ak));exact BR.out) Tryz.underlying39 rfl (by kernel_rfl)) rfl ?_
    exact ⟨_,by first|rfl|(simp [bg,bA] <;> rfl)|(simp [*,bg,bA] <;> rfl),by (with_reducible repeat (first|apply Kd.dw|apply Kd.dx|apply Kd.dN));exact Kd.fV (Kd.dB (p:=⟨Ce,1,none⟩) (Kd.dB (p:=⟨Ce,0,none⟩) (Kd.gV BH.out BR.out (by decide)) (fun _ hk=>hk.2) (.int .u64 BL)) (fun _ hk=>hk.2) (.slice Ji Cj.length Jj)) (fun _ hk=>trivial),hb_⟩
mutual
def aT.l0 : Nat → Int → List (S84) → Int → Int → Option (Int)
 | 0,_,_,_,_=>none
 | k + 1,x3,x18,Iw,x20=>if x20 < Iw then (if 0 ≤ x20 then (if x20 < (x18.length : Int) then (aT.l1 k (wrap64 (x3 + (wrap64 ((wrap64 ((wrap64 (20 + (((au x18 x20).f0).size : Int))) + (((au x18 x20).f1).size : Int))) + (wrap64 (10 * (((au x18 x20).f3).length : Int))))))) x18 Iw x20 ((au x18 x20).f2) (((au x18 x20).f2).length : Int) 0 ((au x18 x20).f0) ((au x18 x20).f1) ((au x18 x20).f2) ((au x18 x20).f3) ((au x18 x20).f4) ((au x18 x20).f5) ((au x18 x20).f6)) else (none)) else (none)) else (some x3)
def aT.l1 : Nat → Int → List (S84) → Int → Int → List ByteArray → Int → Int → ByteArray → ByteArray → List ByteArray → List (S126) → Int → Int → List (S127) → Option (Int)
 | 0,_,_,_,_,_,_,_,_,_,_,_,_,_,_=>none
 | k + 1,x3,x18,Iw,x20,x40,x41,Jk,Hl,Ho,Hq,Hr,Ht,Hu,Ej=>if Jk < x41 then (if 0 ≤ Jk then (if Jk < (x40.length : Int) then (aT.l1 k (wrap64 (x3 + (wrap64 (10 + ((jV ByteArray.empty x40 Jk).size : Int))))) x18 Iw x20 x40 x41 (wrap64 (Jk + 1)) Hl Ho Hq Hr Ht Hu Ej) else (none)) else (none)) else (aT.l2 k x3 x18 Iw x20 Ej (Ej.length : Int) 0)
def aT.l2 : Nat → Int → List (S84) → Int → Int → List (S127) → Int → Int → Option (Int)
 | 0,_,_,_,_,_,_,_=>none
 | k + 1,x3,x18,Iw,x20,Ky,x54,x55=>if x55 < x54 then (if 0 ≤ x55 then (if x55 < (Ky.length : Int) then (aT.l2 k (wrap64 (x3 + (wrap64 ((wrap64 (10 + (((fC Ky x55).f0).size : Int))) + (((fC Ky x55).f1).size : Int))))) x18 Iw x20 Ky x54 (wrap64 (x55 + 1))) else (none)) else (none)) else (if x3 > 20000 then (some 20001) else (aT.l0 k x3 x18 Iw (wrap64 (x20 + 1))))
end
def aT.f (k : Nat) (BL : ByteArray) (CQ : ByteArray) (C9 : Int) (Da : Int) (Db : Bool) (BF : List (S84)) : Option (Int):=aT.l0 k (wrap64 ((BL.size : Int) + (CQ.size : Int))) BF (BF.length : Int) 0
theorem aT.eB : ∀ k,(∀ y0 y1 y2 y3,LeO (aT.l0 k y0 y1 y2 y3) (aT.l0 (k + 1) y0 y1 y2 y3)) ∧ (∀ y0 y1 y2 y3 y4 y5 y6 y7 y8 y9 IB IC IE y13,LeO (aT.l1 k y0 y1 y2 y3 y4 y5 y6 y7 y8 y9 IB IC IE y13) (aT.l1 (k + 1) y0 y1 y2 y3 y4 y5 y6 y7 y8 y9 IB IC IE y13)) ∧ (∀ y0 y1 y2 y3 y4 y5 y6,LeO (aT.l2 k y0 y1 y2 y3 y4 y5 y6) (aT.l2 (k + 1) y0 y1 y2 y3 y4 y5 y6))
 | 0=>⟨fun _ _ _ _ r h=>by simp [aT.l0] at h,fun _ _ _ _ _ _ _ _ _ _ _ _ _ _ r h=>by simp [aT.l1] at h,fun _ _ _ _ _ _ _ r h=>by simp [aT.l2] at h⟩
 | k + 1=>by
  obtain ⟨En,ih1,ih2⟩:=aT.eB k
  refine ⟨?_,?_,?_⟩
  ·intro y0 y1 y2 y3
   unfold aT.l0
   repeat' first
   | (with_reducible exact En _ _ _ _)
   | (with_reducible exact ih1 _ _ _ _ _ _ _ _ _ _ _ _ _ _)
   | (with_reducible exact ih2 _ _ _ _ _ _ _)
   | (with_reducible exact LeO.refl _)
   | (with_reducible exact LeO.none _)
   | (with_reducible refine LeO.ite ?_ ?_)
   | (with_reducible refine LeO.bind ?_ (fun _=>?_))
   | exact En _ _ _ _
   | exact ih1 _ _ _ _ _ _ _ _ _ _ _ _ _ _
   | exact ih2 _ _ _ _ _ _ _
   | exact LeO.none _
   | refine LeO.ite ?_ ?_
   | refine LeO.bind ?_ (fun _=>?_)
  ·intro y0 y1 y2 y3 y4 y5 y6 y7 y8 y9 IB IC IE y13
   unfold aT.l1
   repeat' first
   | (with_reducible exact En _ _ _ _)
   | (with_reducible exact ih1 _ _ _ _ _ _ _ _ _ _ _ _ _ _)
   | (with_reducible exact ih2 _ _ _ _ _ _ _)
   | (with_reducible exact LeO.refl _)
   | (with_reducible exact LeO.none _)
   | (with_reducible refine LeO.ite ?_ ?_)
   | (with_reducible refine LeO.bind ?_ (fun _=>?_))
   | exact En _ _ _ _
   | exact ih1 _ _ _ _ _ _ _ _ _ _ _ _ _ _
   | exact ih2 _ _ _ _ _ _ _
   | exact LeO.none _
   | refine LeO.ite ?_ ?_
   | refine LeO.bind ?_ (fun _=>?_)
  ·intro y0 y1 y2 y3 y4 y5 y6
   unfold aT.l2
   repeat' first
   | (with_reducible exact En _ _ _ _)
   | (with_reducible exact ih1 _ _ _ _ _ _ _ _ _ _ _ _ _ _)
   | (with_reducible exact ih2 _ _ _ _ _ _ _)
   | (with_reducible exact LeO.refl _)
   | (with_reducible exact LeO.none _)
   | (with_reducible refine LeO.ite ?_ ?_)
   | (with_reducible refine LeO.bind ?_ (fun _=>?_))
   | exact En _ _ _ _
   | exact ih1 _ _ _ _ _ _ _ _ _ _ _ _ _ _
   | exact ih2 _ _ _ _ _ _ _
   | exact LeO.none _
   | refine LeO.ite ?_ ?_
   | refine LeO.bind ?_ (fun _=>?_)
theorem aT.mono : ∀ a0 a1 a2 a3 a4 a5 k,LeO (aT.f k a0 a1 a2 a3 a4 a5) (aT.f (k + 1) a0 a1 a2 a3 a4 a5):=by
 intro a0 a1 a2 a3 a4 a5 k
 obtain ⟨En,ih1,ih2⟩:=aT.eB k
 unfold aT.f
 repeat' first
   | (with_reducible exact En _ _ _ _)
   | (with_reducible exact ih1 _ _ _ _ _ _ _ _ _ _ _ _ _ _)
   | (with_reducible exact ih2 _ _ _ _ _ _ _)
   | (with_reducible exact LeO.refl _)
   | (with_reducible exact LeO.none _)
   | (with_reducible refine LeO.ite ?_ ?_)
   | (with_reducible refine LeO.bind ?_ (fun _=>?_))
   | exact En _ _ _ _
   | exact ih1 _ _ _ _ _ _ _ _ _ _ _ _ _ _
   | exact ih2 _ _ _ _ _ _ _
   | exact LeO.none _
   | refine LeO.ite ?_ ?_
   | refine LeO.bind ?_ (fun _=>?_)
set_option maxHeartbeats 8000000 in
set_option maxRecDepth 100000 in
theorem aT.calls (k : Nat) (BL : ByteArray) (CQ : ByteArray) (C9 : Int) (Da : Int) (Db : Bool) (FU : Option Addr) (Dz : Nat) (BF : List (S84)) (r : Int) (w : World) (Iy : Kd.C k84 w FU BF.length BF) (Iz : BF.length ≤ Dz) (h : aT.f k BL CQ C9 Da Db BF = some r) :
  Calls Tryz.prog 37 #[.agg #[.string BL,.string CQ,.int .i64 C9,.int .i64 Da,.bool Db,.slice FU BF.length Dz]] w fun e w'=>e = .returned (.int .i64 r) ∧ Below w.heap.size w w':=by
 have M8:=Tryz.underlying77
 have M9:=Tryz.underlying84
 have MC:=Tryz.underlying127
 have Jl:=Aside0.mk Iy
 have ME:=Aside0.mk Iz
 clear Iy Iz
 have HB:=Aside0.mk (Below.refl w.heap.size w)
 have H : (aT.l0 k (wrap64 ((BL.size : Int) + (CQ.size : Int))) BF (BF.length : Int) 0) = some r:=h
 clear h
 have H':=Aside0.mk H
 clear H
 go_enter Tryz.func37,Tryz.ntmps37
 go_wp2_with (first|((with_reducible refine bN (N:=1) rfl ?_);refine bT ?hg (N:=1) ?hd (cs:=#[.string BL,.string CQ,.int .i64 C9,.int .i64 Da,.bool Db,.slice FU BF.length Dz]) (t:=77) ?hr ?_;(case hd=>rfl);(case hg=>rfl);(case hr=>first|(go_simp;done)|(go_simp;rfl));intro Cu hg w2 hbox hb;have CU:=Aside0.mk (aN hb_ hb);have CV:=Aside0.mk (hbox);have CW:=Aside0.mk ((by rw [hg];exact (aR hb_) : w.heap.size ≤ Cu));have CX:=Aside0.mk ((by rw [hg];exact (aR hb_) : w.heap.size ≤ Cu));clear HB;have HB:=CU;have Ch:=CV;have MF:=CW;have MG:=CX;clear CU CV CW CX;clear hb hbox hg;have EA : w2.cell? ⟨Cu,0,none⟩ = some (.string BL):=(ah Ch.out 0).trans rfl;have EB : w2.cell? ⟨Cu,1,none⟩ = some (.string CQ):=(ah Ch.out 1).trans rfl;have EC : w2.cell? ⟨Cu,2,none⟩ = some (.int .i64 C9):=(ah Ch.out 2).trans rfl;have ED : w2.cell? ⟨Cu,3,none⟩ = some (.int .i64 Da):=(ah Ch.out 3).trans rfl;have EF : w2.cell? ⟨Cu,4,none⟩ = some (.bool Db):=(ah Ch.out 4).trans rfl;have EG : w2.cell? ⟨Cu,5,none⟩ = some (.slice FU BF.length Dz):=(ah Ch.out 5).trans rfl;have EH:=av Ch.out 0;have EI:=av Ch.out 1;have EJ:=av Ch.out 2;have EK:=av Ch.out 3;have EL:=av Ch.out 4;have EM:=av Ch.out 5))
 go_loopg [3,20] k (fun kq v3 v20 w'=>∃ (Hw : Int) (BD : Int),v3 = .int .i64 Hw ∧ v20 = .int .i64 BD ∧ Aside0 (aT.l0 kq Hw BF (BF.length : Int) BD = some r) ∧ Aside0 (kq ≤ k) ∧ Aside0 (w'.heap[Cu]? = some (.cells #[.string BL,.string CQ,.int .i64 C9,.int .i64 Da,.bool Db,(.slice FU BF.length Dz)] 77 (0,0))) ∧ Aside0 (Below w.heap.size w w'))
 case atStart=>exact ⟨(wrap64 ((BL.size : Int) + (CQ.size : Int))),(0),(by first|rfl|(simp;done)|(simp [*];done)),(by first|rfl|(simp;done)|(simp [*];done)),H',⟨Nat.le_refl _⟩,⟨by (with_reducible repeat (first|apply aj|apply ay|apply ak));exact Ch.out⟩,⟨hb_⟩⟩
 case round =>
  clear H'
  try clear p2
  try clear c3
  try clear EA
  try clear EB
  try clear EC
  try clear ED
  try clear EF
  try clear EG
  try clear EH
  try clear EI
  try clear EJ
  try clear EK
  try clear EL
  try clear EM
  obtain ⟨Hw,BD,rfl,rfl,HA,FM,Ch,HB⟩:=hrel
  cases gk with
  | zero=>exact absurd HA.out (by simp [aT.l0])
  | succ k1 =>
   have H:=HA.out
   clear HA
   simp only [aT.l0] at H
   by_cases c4 : BD < (BF.length : Int)
   ·rw [if_pos c4] at H
    have c4b0 : decide (BD < (BF.length : Int)) = true:=decide_eq_true c4
    clear c4
    by_cases c5 : 0 ≤ BD
    ·rw [if_pos c5] at H
     have c5b0 : decide (0 ≤ BD) = true:=decide_eq_true c5
     clear c5
     by_cases c6 : BD < (BF.length : Int)
     ·rw [if_pos c6] at H
      have c6b0 : decide (BD < (BF.length : Int)) = true:=decide_eq_true c6
      clear c6
      have H':=Aside0.mk H
      clear H
      have FV : 0 ≤ (BD : Int):=of_decide_eq_true (by first|(with_reducible assumption)|assumption)
      have FW : BD < (BF.length : Int):=of_decide_eq_true (by first|(with_reducible assumption)|assumption)
      obtain ⟨DR,CG,CJ,CK,CO,EN,DF,e209,Dc,Df,Dh,Di,Dj,Dk,Dl,Fa,Fb,Fe,Fg,Fh,Fj⟩:=kF Jl.out BD FV FW
      cases e209
      replace Dc:=(HB.out.cell (World.block_lt_of_cell? w _ Dc)).trans Dc
      replace Df:=(HB.out.cell (World.block_lt_of_cell? w _ Df)).trans Df
      replace Dh:=(HB.out.cell (World.block_lt_of_cell? w _ Dh)).trans Dh
      replace Di:=(HB.out.cell (World.block_lt_of_cell? w _ Di)).trans Di
      replace Dj:=(HB.out.cell (World.block_lt_of_cell? w _ Dj)).trans Dj
      replace Dk:=(HB.out.cell (World.block_lt_of_cell? w _ Dk)).trans Dk
      replace Dl:=(HB.out.cell (World.block_lt_of_cell? w _ Dl)).trans Dl
      have Hy:=Aside0.mk Fb
      have Kz:=Aside0.mk Fa
      clear Fb Fa
      have KA:=Aside0.mk Fg
      have KC:=Aside0.mk Fe
      clear Fg Fe
      have Hz:=Aside0.mk Fj
      have KD:=Aside0.mk Fh
      clear Fj Fh
      replace FV:=eq_true FV
      replace FW:=eq_true FW
      go_wp2_with (first|((with_reducible refine bN (N:=5) rfl ?_);refine bT ?hg (N:=5) ?hd (cs:=#[.string (⟨#[]⟩ : ByteArray),.string (⟨#[]⟩ : ByteArray),.slice none 0 0,.slice none 0 0,.int .i64 0,.int .i64 0,.slice none 0 0]) (t:=84) ?hr ?_;(case hd=>rfl);(case hg=>rfl);(case hr=>first|(go_simp;done)|(go_simp;rfl));intro Ck hg w7 hbox hb;have CU:=Aside0.mk (aJ (g:=Cu) (o:=.cells #[.string BL,.string CQ,.int .i64 C9,.int .i64 Da,.bool Db,.slice (some DR) BF.length Dz] 77 (0,0)) (bk_ Ch.out) hb);have CV:=Aside0.mk (aN hb_ hb);have CW:=Aside0.mk (hbox);have CX:=Aside0.mk ((by rw [hg];exact (aR hb_) : w.heap.size ≤ Ck));have DK:=Aside0.mk ((by rw [hg];exact (aR hb_) : w.heap.size ≤ Ck));have DL:=Aside0.mk ((by rw [hg];exact Nat.ne_of_lt (aW (g:=Cu) (o:=.cells #[.string BL,.string CQ,.int .i64 C9,.int .i64 Da,.bool Db,.slice (some DR) BF.length Dz] 77 (0,0)) (bk_ Ch.out)) : Cu ≠ Ck));have DN:=Aside0.mk ((by rw [hg];exact Nat.ne_of_gt (aW (g:=Cu) (o:=.cells #[.string BL,.string CQ,.int .i64 C9,.int .i64 Da,.bool Db,.slice (some DR) BF.length Dz] 77 (0,0)) (bk_ Ch.out)) : Ck ≠ Cu));clear Ch;clear HB;have Ch:=CU;have HB:=CV;have BZ:=CW;have MH:=CX;have MI:=DK;have Ct:=DL;have Ee:=DN;clear CU CV CW CX DK DL DN;clear hb hbox hg;have KJ:=Ee.out;have KL:=Ct.out;have D7 : w7.cell? ⟨Ck,0,none⟩ = some (.string (⟨#[]⟩ : ByteArray)):=(ah BZ.out 0).trans rfl;have D8 : w7.cell? ⟨Ck,1,none⟩ = some (.string (⟨#[]⟩ : ByteArray)):=(ah BZ.out 1).trans rfl;have FX : w7.cell? ⟨Ck,2,none⟩ = some (.slice none 0 0):=(ah BZ.out 2).trans rfl;have FY : w7.cell? ⟨Ck,3,none⟩ = some (.slice none 0 0):=(ah BZ.out 3).trans rfl;have FZ : w7.cell? ⟨Ck,4,none⟩ = some (.int .i64 0):=(ah BZ.out 4).trans rfl;have F3 : w7.cell? ⟨Ck,5,none⟩ = some (.int .i64 0):=(ah BZ.out 5).trans rfl;have F4 : w7.cell? ⟨Ck,6,none⟩ = some (.slice none 0 0):=(ah BZ.out 6).trans rfl;have D9:=av BZ.out 0;have Ea:=av BZ.out 1;have F5:=av BZ.out 2;have F6:=av BZ.out 3;have F7:=av BZ.out 4;have F8:=av BZ.out 5;have F9:=av BZ.out 6))
      go_loopg [3,42] k1 (fun kq v3 v42 w'=>∃ (Ga : Int) (CF : Int),v3 = .int .i64 Ga ∧ v42 = .int .i64 CF ∧ Aside0 (aT.l1 kq Ga BF (BF.length : Int) BD ((au BF BD).f2) (((au BF BD).f2).length : Int) CF ((au BF BD).f0) ((au BF BD).f1) ((au BF BD).f2) ((au BF BD).f3) ((au BF BD).f4) ((au BF BD).f5) ((au BF BD).f6) = some r) ∧ Aside0 (kq ≤ k1) ∧ Aside0 (w'.heap[Cu]? = some (.cells #[.string BL,.string CQ,.int .i64 C9,.int .i64 Da,.bool Db,(.slice (some DR) BF.length Dz)] 77 (0,0))) ∧ Aside0 (w'.heap[Ck]? = some (.cells #[.string ((au BF BD).f0),.string ((au BF BD).f1),(.slice CG ((au BF BD).f2).length CJ),(.slice CK ((au BF BD).f3).length CO),.int .i64 ((au BF BD).f4),.int .i64 ((au BF BD).f5),(.slice EN ((au BF BD).f6).length DF)] 84 (0,0))) ∧ Aside0 (Below w.heap.size w w'))
      case atStart=>exact ⟨(wrap64 (Hw + (wrap64 ((wrap64 ((wrap64 (20 + (((au BF BD).f0).size : Int))) + (((au BF BD).f1).size : Int))) + (wrap64 (10 * (((au BF BD).f3).length : Int))))))),(0),(by first|rfl|(simp;done)|(simp [*];done)),(by first|rfl|(simp;done)|(simp [*];done)),H',⟨Nat.le_refl _⟩,⟨by (with_reducible repeat (first|apply aj|apply ay|apply ak));refine aD ?_ Ct.out _;(with_reducible repeat (first|apply aj|apply ay|apply ak));refine aD ?_ Ct.out _;(with_reducible repeat (first|apply aj|apply ay|apply ak));refine aD ?_ Ct.out _;(with_reducible repeat (first|apply aj|apply ay|apply ak));refine aD ?_ Ct.out _;(with_reducible repeat (first|apply aj|apply ay|apply ak));refine aD ?_ Ct.out _;(with_reducible repeat (first|apply aj|apply ay|apply ak));refine aD ?_ Ct.out _;(with_reducible repeat (first|apply aj|apply ay|apply ak));refine aD ?_ Ct.out _;(with_reducible repeat (first|apply aj|apply ay|apply ak));exact Ch.out⟩,⟨by (with_reducible repeat (first|apply aj|apply ay|apply ak));refine aQ (cs:=#[.string ((au BF BD).f0),.string ((au BF BD).f1),.slice CG ((au BF BD).f2).length CJ,.slice CK ((au BF BD).f3).length CO,.int .i64 ((au BF BD).f4),.int .i64 ((au BF BD).f5),.slice none 0 0]) ?_ 6 _ rfl;(with_reducible repeat (first|apply aj|apply ay|apply ak));refine aQ (cs:=#[.string ((au BF BD).f0),.string ((au BF BD).f1),.slice CG ((au BF BD).f2).length CJ,.slice CK ((au BF BD).f3).length CO,.int .i64 ((au BF BD).f4),.int .i64 0,.slice none 0 0]) ?_ 5 _ rfl;(with_reducible repeat (first|apply aj|apply ay|apply ak));refine aQ (cs:=#[.string ((au BF BD).f0),.string ((au BF BD).f1),.slice CG ((au BF BD).f2).length CJ,.slice CK ((au BF BD).f3).length CO,.int .i64 0,.int .i64 0,.slice none 0 0]) ?_ 4 _ rfl;(with_reducible repeat (first|apply aj|apply ay|apply ak));refine aQ (cs:=#[.string ((au BF BD).f0),.string ((au BF BD).f1),.slice CG ((au BF BD).f2).length CJ,.slice none 0 0,.int .i64 0,.int .i64 0,.slice none 0 0]) ?_ 3 _ rfl;(with_reducible repeat (first|apply aj|apply ay|apply ak));refine aQ (cs:=#[.string ((au BF BD).f0),.string ((au BF BD).f1),.slice none 0 0,.slice none 0 0,.int .i64 0,.int .i64 0,.slice none 0 0]) ?_ 2 _ rfl;(with_reducible repeat (first|apply aj|apply ay|apply ak));refine aQ (cs:=#[.string ((au BF BD).f0),.string (⟨#[]⟩ : ByteArray),.slice none 0 0,.slice none 0 0,.int .i64 0,.int .i64 0,.slice none 0 0]) ?_ 1 _ rfl;(with_reducible repeat (first|apply aj|apply ay|apply ak));refine aQ (cs:=#[.string (⟨#[]⟩ : ByteArray),.string (⟨#[]⟩ : ByteArray),.slice none 0 0,.slice none 0 0,.int .i64 0,.int .i64 0,.slice none 0 0]) ?_ 0 _ rfl;(with_reducible repeat (first|apply aj|apply ay|apply ak));exact BZ.out⟩,⟨hb_⟩⟩
      case round =>
       clear H'
       try clear c2
       try clear p2
       try clear q2
       try clear hx2
       try clear c3
       try clear c4
       try clear c4b0
       try clear c5
       try clear c5b0
       try clear c6
       try clear c6b0
       try clear p6
       try clear c8
       try clear EA
       try clear EB
       try clear EC
       try clear ED
       try clear EF
       try clear EG
       try clear D7
       try clear D8
       try clear FX
       try clear FY
       try clear FZ
       try clear F3
       try clear F4
       try clear EH
       try clear EI
       try clear EJ
       try clear EK
       try clear EL
       try clear EM
       try clear D9
       try clear Ea
       try clear F5
       try clear F6
       try clear F7
       try clear F8
       try clear F9
       try clear Dc
       try clear Df
       try clear Dh
       try clear Di
       try clear Dj
       try clear Dk
       try clear Dl
       try clear p2
       try clear FV
       try clear FW
       obtain ⟨Ga,CF,rfl,rfl,HA,FR,Ch,BZ,HB⟩:=hrel
       cases gk with
       | zero=>exact absurd HA.out (by simp [aT.l1])
       | succ k2 =>
        have H:=HA.out
        clear HA
        simp only [aT.l1] at H
        by_cases c10 : CF < (((au BF BD).f2).length : Int)
        ·rw [if_pos c10] at H
         have c10b0 : decide (CF < (((au BF BD).f2).length : Int)) = true:=decide_eq_true c10
         clear c10
         by_cases c11 : 0 ≤ CF
         ·rw [if_pos c11] at H
          have c11b0 : decide (0 ≤ CF) = true:=decide_eq_true c11
          clear c11
          by_cases c12 : CF < (((au BF BD).f2).length : Int)
          ·rw [if_pos c12] at H
           have c12b0 : decide (CF < (((au BF BD).f2).length : Int)) = true:=decide_eq_true c12
           clear c12
           have H':=Aside0.mk H
           clear H
           have HY : 0 ≤ (CF : Int):=of_decide_eq_true (by first|(with_reducible assumption)|assumption)
           have H6 : CF < (((au BF BD).f2).length : Int):=of_decide_eq_true (by first|(with_reducible assumption)|assumption)
           obtain ⟨MJ,e211,D6⟩:=Kd.jY Hy.out CF HY H6
           cases e211
           replace D6:=(HB.out.cell (World.block_lt_of_cell? w _ D6)).trans D6
           replace HY:=eq_true HY
           replace H6:=eq_true H6
           go_wp2
           go_roundg k2
           case measure=>have:=FM.out;have:=FR.out;omega
           case rel=>exact ⟨(wrap64 (Ga + (wrap64 (10 + ((jV ByteArray.empty ((au BF BD).f2) CF).size : Int))))),(wrap64 (CF + 1)),(by first|rfl|(simp;done)|(simp [*];done)),(by first|rfl|(simp;done)|(simp [*];done)),H',⟨by have:=FM.out;have:=FR.out;omega⟩,⟨by (with_reducible repeat (first|apply aj|apply ay|apply ak));exact Ch.out⟩,⟨by (with_reducible repeat (first|apply aj|apply ay|apply ak));exact BZ.out⟩,⟨hb_⟩⟩
          ·rw [if_neg c12] at H
           exact absurd H (by simp)
         ·rw [if_neg c11] at H
          exact absurd H (by simp)
        ·rw [if_neg c10] at H
         have c10b0 : decide (CF < (((au BF BD).f2).length : Int)) = false:=decide_eq_false c10
         clear c10
         have H':=Aside0.mk H
         clear H
         have MK:=Ee.out
         have ML:=Ct.out
         have H7 : wr.cell? ⟨Ck,0,none⟩ = some (.string ((au BF BD).f0)):=(ah BZ.out 0).trans rfl
         have H8 : wr.cell? ⟨Ck,1,none⟩ = some (.string ((au BF BD).f1)):=(ah BZ.out 1).trans rfl
         have H9 : wr.cell? ⟨Ck,2,none⟩ = some (.slice CG ((au BF BD).f2).length CJ):=(ah BZ.out 2).trans rfl
         have Ia : wr.cell? ⟨Ck,3,none⟩ = some (.slice CK ((au BF BD).f3).length CO):=(ah BZ.out 3).trans rfl
         have Ib : wr.cell? ⟨Ck,4,none⟩ = some (.int .i64 ((au BF BD).f4)):=(ah BZ.out 4).trans rfl
         have Ic : wr.cell? ⟨Ck,5,none⟩ = some (.int .i64 ((au BF BD).f5)):=(ah BZ.out 5).trans rfl
         have Ie : wr.cell? ⟨Ck,6,none⟩ = some (.slice EN ((au BF BD).f6).length DF):=(ah BZ.out 6).trans rfl
         have Ig:=av BZ.out 0
         have Ih:=av BZ.out 1
         have Ii:=av BZ.out 2
         have Ij:=av BZ.out 3
         have Ik:=av BZ.out 4
         have Il:=av BZ.out 5
         have Im:=av BZ.out 6
         go_wp2
         go_loopg [3,55] k2 (fun kq v3 v55 w'=>∃ (Ez : Int) (Cw : Int),v3 = .int .i64 Ez ∧ v55 = .int .i64 Cw ∧ Aside0 (aT.l2 kq Ez BF (BF.length : Int) BD ((au BF BD).f6) (((au BF BD).f6).length : Int) Cw = some r) ∧ Aside0 (kq ≤ k2) ∧ Aside0 (w'.heap[Cu]? = some (.cells #[.string BL,.string CQ,.int .i64 C9,.int .i64 Da,.bool Db,(.slice (some DR) BF.length Dz)] 77 (0,0))) ∧ Aside0 (w'.heap[Ck]? = some (.cells #[.string ((au BF BD).f0),.string ((au BF BD).f1),(.slice CG ((au BF BD).f2).length CJ),(.slice CK ((au BF BD).f3).length CO),.int .i64 ((au BF BD).f4),.int .i64 ((au BF BD).f5),(.slice EN ((au BF BD).f6).length DF)] 84 (0,0))) ∧ Aside0 (Below w.heap.size w w'))
         case atStart=>exact ⟨(Ga),(0),(by first|rfl|(simp;done)|(simp [*];done)),(by first|rfl|(simp;done)|(simp [*];done)),H',⟨Nat.le_refl _⟩,⟨by (with_reducible repeat (first|apply aj|apply ay|apply ak));exact Ch.out⟩,⟨by (with_reducible repeat (first|apply aj|apply ay|apply ak));exact BZ.out⟩,⟨hb_⟩⟩
         case round =>
          clear H'
          try clear c1
          try clear c2
          try clear p2
          try clear q2
          try clear hx2
          try clear c3
          try clear c4
          try clear c4b0
          try clear c5
          try clear c5b0
          try clear c6
          try clear c6b0
          try clear p6
          try clear c8
          try clear c10
          try clear c10b0
          try clear c11
          try clear c11b0
          try clear c12
          try clear c12b0
          try clear c13
          try clear H7
          try clear H8
          try clear H9
          try clear Ia
          try clear Ib
          try clear Ic
          try clear Ie
          try clear EA
          try clear EB
          try clear EC
          try clear ED
          try clear EF
          try clear EG
          try clear D7
          try clear D8
          try clear FX
          try clear FY
          try clear FZ
          try clear F3
          try clear F4
          try clear Ig
          try clear Ih
          try clear Ii
          try clear Ij
          try clear Ik
          try clear Il
          try clear Im
          try clear EH
          try clear EI
          try clear EJ
          try clear EK
          try clear EL
          try clear EM
          try clear D9
          try clear Ea
          try clear F5
          try clear F6
          try clear F7
          try clear F8
          try clear F9
          try clear Dc
          try clear Df
          try clear Dh
          try clear Di
          try clear Dj
          try clear Dk
          try clear Dl
          try clear D6
          try clear p2
          try clear FV
          try clear HY
          try clear p6
          try clear q2
          try clear FW
          try clear H6
          obtain ⟨Ez,Cw,rfl,rfl,HA,KE,Ch,BZ,HB⟩:=hrel
          cases gk with
          | zero=>exact absurd HA.out (by simp [aT.l2])
          | succ k3 =>
           have H:=HA.out
           clear HA
           simp only [aT.l2] at H
           by_cases c15 : Cw < (((au BF BD).f6).length : Int)
           ·rw [if_pos c15] at H
            have c15b0 : decide (Cw < (((au BF BD).f6).length : Int)) = true:=decide_eq_true c15
            clear c15
            by_cases c16 : 0 ≤ Cw
            ·rw [if_pos c16] at H
             have c16b0 : decide (0 ≤ Cw) = true:=decide_eq_true c16
             clear c16
             by_cases c17 : Cw < (((au BF BD).f6).length : Int)
             ·rw [if_pos c17] at H
              have c17b0 : decide (Cw < (((au BF BD).f6).length : Int)) = true:=decide_eq_true c17
              clear c17
              have H':=Aside0.mk H
              clear H
              have IU : 0 ≤ (Cw : Int):=of_decide_eq_true (by first|(with_reducible assumption)|assumption)
              have IV : Cw < (((au BF BD).f6).length : Int):=of_decide_eq_true (by first|(with_reducible assumption)|assumption)
              obtain ⟨Gb,e212,El,Em⟩:=lJ Hz.out Cw IU IV
              cases e212
              replace El:=(HB.out.cell (World.block_lt_of_cell? w _ El)).trans El
              replace Em:=(HB.out.cell (World.block_lt_of_cell? w _ Em)).trans Em
              replace IU:=eq_true IU
              replace IV:=eq_true IV
              go_wp2_with (first|((with_reducible refine bN (N:=9) rfl ?_);refine bT ?hg (N:=9) ?hd (cs:=#[.string (⟨#[]⟩ : ByteArray),.string (⟨#[]⟩ : ByteArray)]) (t:=127) ?hr ?_;(case hd=>rfl);(case hg=>rfl);(case hr=>first|(go_simp;done)|(go_simp;rfl));intro DT hg MN hbox hb;have CU:=Aside0.mk (aJ (g:=Cu) (o:=.cells #[.string BL,.string CQ,.int .i64 C9,.int .i64 Da,.bool Db,.slice (some DR) BF.length Dz] 77 (0,0)) (bk_ Ch.out) hb);have CV:=Aside0.mk (aJ (g:=Ck) (o:=.cells #[.string ((au BF BD).f0),.string ((au BF BD).f1),.slice CG ((au BF BD).f2).length CJ,.slice CK ((au BF BD).f3).length CO,.int .i64 ((au BF BD).f4),.int .i64 ((au BF BD).f5),.slice (some Gb) ((au BF BD).f6).length DF] 84 (0,0)) (bk_ BZ.out) hb);have CW:=Aside0.mk (aN hb_ hb);have CX:=Aside0.mk (hbox);have DK:=Aside0.mk ((by rw [hg];exact (aR hb_) : w.heap.size ≤ DT));have DL:=Aside0.mk ((by rw [hg];exact (aR hb_) : w.heap.size ≤ DT));have DN:=Aside0.mk ((by rw [hg];exact Nat.ne_of_lt (aW (g:=Cu) (o:=.cells #[.string BL,.string CQ,.int .i64 C9,.int .i64 Da,.bool Db,.slice (some DR) BF.length Dz] 77 (0,0)) (bk_ Ch.out)) : Cu ≠ DT));have Eo:=Aside0.mk ((by rw [hg];exact Nat.ne_of_gt (aW (g:=Cu) (o:=.cells #[.string BL,.string CQ,.int .i64 C9,.int .i64 Da,.bool Db,.slice (some DR) BF.length Dz] 77 (0,0)) (bk_ Ch.out)) : DT ≠ Cu));have Ep:=Aside0.mk ((by rw [hg];exact Nat.ne_of_lt (aW (g:=Ck) (o:=.cells #[.string ((au BF BD).f0),.string ((au BF BD).f1),.slice CG ((au BF BD).f2).length CJ,.slice CK ((au BF BD).f3).length CO,.int .i64 ((au BF BD).f4),.int .i64 ((au BF BD).f5),.slice (some Gb) ((au BF BD).f6).length DF] 84 (0,0)) (bk_ BZ.out)) : Ck ≠ DT));have EU:=Aside0.mk ((by rw [hg];exact Nat.ne_of_gt (aW (g:=Ck) (o:=.cells #[.string ((au BF BD).f0),.string ((au BF BD).f1),.slice CG ((au BF BD).f2).length CJ,.slice CK ((au BF BD).f3).length CO,.int .i64 ((au BF BD).f4),.int .i64 ((au BF BD).f5),.slice (some Gb) ((au BF BD).f6).length DF] 84 (0,0)) (bk_ BZ.out)) : DT ≠ Ck));clear Ch;clear BZ;clear HB;have Ch:=CU;have BZ:=CV;have HB:=CW;have Fp:=CX;have MO:=DK;have MP:=DL;have DI:=DN;have FB:=Eo;have DJ:=Ep;have FC:=EU;clear CU CV CW CX DK DL DN Eo Ep EU;clear hb hbox hg;have MQ:=FB.out;have MR:=DI.out;have I6:=FC.out;have I7:=DJ.out;have KF : MN.cell? ⟨DT,0,none⟩ = some (.string (⟨#[]⟩ : ByteArray)):=(ah Fp.out 0).trans rfl;have KG : MN.cell? ⟨DT,1,none⟩ = some (.string (⟨#[]⟩ : ByteArray)):=(ah Fp.out 1).trans rfl;have KH:=av Fp.out 0;have KI:=av Fp.out 1))
              go_roundg k3
              case measure=>have:=FM.out;have:=FR.out;have:=KE.out;omega
              case rel=>exact ⟨(wrap64 (Ez + (wrap64 ((wrap64 (10 + (((fC ((au BF BD).f6) Cw).f0).size : Int))) + (((fC ((au BF BD).f6) Cw).f1).size : Int))))),(wrap64 (Cw + 1)),(by first|rfl|(simp;done)|(simp [*];done)),(by first|rfl|(simp;done)|(simp [*];done)),H',⟨by have:=FM.out;have:=FR.out;have:=KE.out;omega⟩,⟨by (with_reducible repeat (first|apply aj|apply ay|apply ak));refine aD ?_ DI.out _;(with_reducible repeat (first|apply aj|apply ay|apply ak));refine aD ?_ DI.out _;(with_reducible repeat (first|apply aj|apply ay|apply ak));exact Ch.out⟩,⟨by (with_reducible repeat (first|apply aj|apply ay|apply ak));refine aD ?_ DJ.out _;(with_reducible repeat (first|apply aj|apply ay|apply ak));refine aD ?_ DJ.out _;(with_reducible repeat (first|apply aj|apply ay|apply ak));exact BZ.out⟩,⟨hb_⟩⟩
             ·rw [if_neg c17] at H
              exact absurd H (by simp)
            ·rw [if_neg c16] at H
             exact absurd H (by simp)
           ·rw [if_neg c15] at H
            have c15b0 : decide (Cw < (((au BF BD).f6).length : Int)) = false:=decide_eq_false c15
            clear c15
            by_cases IG : Ez > 20000
            ·rw [if_pos IG] at H
             have c22b0 : decide (20000 < Ez) = true:=decide_eq_true IG
             clear IG
             obtain rfl:=Option.some.inj H
             go_wp2
             go_ret
             exact ⟨by first|rfl|(simp [bg,bA] <;> rfl)|(simp [*,bg,bA] <;> rfl),hb_⟩
            ·rw [if_neg IG] at H
             have c22b0 : decide (20000 < Ez) = false:=decide_eq_false IG
             clear IG
             have H':=Aside0.mk H
             clear H
             go_wp2
             go_roundg k3
             case measure=>have:=FM.out;have:=FR.out;have:=KE.out;omega
             case rel=>exact ⟨(Ez),(wrap64 (BD + 1)),(by first|rfl|(simp;done)|(simp [*];done)),(by first|rfl|(simp;done)|(simp [*];done)),H',⟨by have:=FM.out;have:=FR.out;have:=KE.out;omega⟩,⟨by (with_reducible repeat (first|apply aj|apply ay|apply ak));exact Ch.out⟩,⟨hb_⟩⟩
     ·rw [if_neg c6] at H
      exact absurd H (by simp)
    ·rw [if_neg c5] at H
     exact absurd H (by simp)
   ·rw [if_neg c4] at H
    have c4b0 : decide (BD < (BF.length : Int)) = false:=decide_eq_false c4
    clear c4
    obtain rfl:=Option.some.inj H
    go_wp2
    go_ret
    exact ⟨by first|rfl|(simp [bg,bA] <;> rfl)|(simp [*,bg,bA] <;> rfl),hb_⟩
end Go.Proofs.YtpncpefppifgdaaGreatDoor.GUt
