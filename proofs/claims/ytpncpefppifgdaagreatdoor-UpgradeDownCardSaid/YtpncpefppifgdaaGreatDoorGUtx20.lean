/- Written by this session's own program (wip/gen.py) out of the translation: plain Lean functions of the Go functions, and proofs that the calls come to their answers. No conditions beside those in the statements. -/
import Derived.Test.YtpncpefppifgdaaGreatDoorCp
import Derived.Test.YtpncpefppifgdaaGreatDoorGUtx0
namespace Go.Proofs.YtpncpefppifgdaaGreatDoor.GUt
open Go.RowKit Go.Proofs.YtpncpefppifgdaaGreatDoorW.PrintWords Go.Proofs.YtpncpefppifgdaaGreatDoorW.PrintLast Go.Proofs.YtpncpefppifgdaaGreatDoorW.PrintMore
attribute [local go_sem] fH fI gF gG eZ fq fJ fK
set_option linter.unusedVariables false
set_option linter.unusedSimpArgs false
mutual
def aI.l0 : Nat → Int → Int → List (S96) → Int → List (S88) → Option (Int × (List (S88)) × Bool)
 | 0,_,_,_,_,_=>none
 | k + 1,x5,DR,Ca,DK,DF=>if x5 < (Ca.length : Int) then (if 0 ≤ x5 then (if ((aA Ca x5).f1.f2) < 0 then (aI.j1 k x5 true DR Ca DK DF ((aA Ca x5).f1.f0) ((aA Ca x5).f1.f1) ((aA Ca x5).f1.f2) ((aA Ca x5).f1.f3) ((aA Ca x5).f1.f4) ((aA Ca x5).f1.f5)) else (if ((aA Ca x5).f1.f2) > 255 then (aI.j1 k x5 true DR Ca DK DF ((aA Ca x5).f1.f0) ((aA Ca x5).f1.f1) ((aA Ca x5).f1.f2) ((aA Ca x5).f1.f3) ((aA Ca x5).f1.f4) ((aA Ca x5).f1.f5)) else (if ((aA Ca x5).f1.f3) < 0 then (aI.j1 k x5 true DR Ca DK DF ((aA Ca x5).f1.f0) ((aA Ca x5).f1.f1) ((aA Ca x5).f1.f2) ((aA Ca x5).f1.f3) ((aA Ca x5).f1.f4) ((aA Ca x5).f1.f5)) else (if ((aA Ca x5).f1.f3) > 65535 then (aI.j1 k x5 true DR Ca DK DF ((aA Ca x5).f1.f0) ((aA Ca x5).f1.f1) ((aA Ca x5).f1.f2) ((aA Ca x5).f1.f3) ((aA Ca x5).f1.f4) ((aA Ca x5).f1.f5)) else (aI.j1 k x5 ((aA Ca x5).f1.f4) DR Ca DK DF ((aA Ca x5).f1.f0) ((aA Ca x5).f1.f1) ((aA Ca x5).f1.f2) ((aA Ca x5).f1.f3) ((aA Ca x5).f1.f4) ((aA Ca x5).f1.f5)))))) else (none)) else (some (DK,DF,true))
def aI.j1 : Nat → Int → Bool → Int → List (S96) → Int → List (S88) → ByteArray → ByteArray → Int → Int → Bool → List (S106) → Option (Int × (List (S88)) × Bool)
 | 0,_,_,_,_,_,_,_,_,_,_,_,_=>none
 | k + 1,x5,VA,DR,Ca,DK,DF,EX,EY,EZ,E5,E9,DL=>if VA = true then (some (0,([] : List (S88)),false)) else (if 0 ≤ x5 then (if x5 < (Ca.length : Int) then (aI.l1 k x5 0 DR Ca DK DF EX EY EZ E5 E9 DL ((aA Ca x5).f0) EX EY ((EZ) % 256) (IntKind.u16.wrap (E5)) ([] : List (S89))) else (none)) else (none))
def aI.l1 : Nat → Int → Int → Int → List (S96) → Int → List (S88) → ByteArray → ByteArray → Int → Int → Bool → List (S106) → ByteArray → ByteArray → ByteArray → Int → Int → List (S89) → Option (Int × (List (S88)) × Bool)
 | 0,_,_,_,_,_,_,_,_,_,_,_,_,_,_,_,_,_,_=>none
 | k + 1,x5,x8,DR,Ca,DK,DF,EX,EY,EZ,E5,E9,DL,FI,FJ,FL,FM,FN,Fa=>if x8 < (DL.length : Int) then (if 0 ≤ x8 then (if (((bE DL x8).f2).length : Int) > 0 then (some (0,([] : List (S88)),false)) else (if (((bE DL x8).f3).length : Int) > 0 then (some (0,([] : List (S88)),false)) else (if (((bE DL x8).f6).length : Int) > 0 then (some (0,([] : List (S88)),false)) else (if ((bE DL x8).f4) = 100 then (if ((bE DL x8).f5) = 64 then (if Fa.length < 4398046511104 then (aI.l1 k x5 (wrap64 (x8 + 1)) DR Ca DK DF EX EY EZ E5 E9 DL FI FJ FL FM FN (Fa ++ [(⟨(bE DL x8).f0,(bE DL x8).f1⟩ : S89)])) else (none)) else (some (0,([] : List (S88)),false))) else (some (0,([] : List (S88)),false)))))) else (none)) else (if DF.length < 1759218604441 then (aI.l0 k (wrap64 (x5 + 1)) DR Ca DK (DF ++ [(⟨FI,FJ,FL,FM,FN,Fa⟩ : S88)])) else (none))
end
def aI.f (k : Nat) (Ck : Int) (Bw : List (S96)) : Option (Int × (List (S88)) × Bool):=aI.l0 k 0 Ck Bw Ck ([] : List (S88))
theorem aI.eB : ∀ k,(∀ y0 y1 y2 y3 y4,LeO (aI.l0 k y0 y1 y2 y3 y4) (aI.l0 (k + 1) y0 y1 y2 y3 y4)) ∧ (∀ y0 y1 y2 y3 y4 y5 y6 y7 y8 y9 I8 I9,LeO (aI.j1 k y0 y1 y2 y3 y4 y5 y6 y7 y8 y9 I8 I9) (aI.j1 (k + 1) y0 y1 y2 y3 y4 y5 y6 y7 y8 y9 I8 I9)) ∧ (∀ y0 y1 y2 y3 y4 y5 y6 y7 y8 y9 I8 I9 Qo y13 Qp Qq Qr Qs,LeO (aI.l1 k y0 y1 y2 y3 y4 y5 y6 y7 y8 y9 I8 I9 Qo y13 Qp Qq Qr Qs) (aI.l1 (k + 1) y0 y1 y2 y3 y4 y5 y6 y7 y8 y9 I8 I9 Qo y13 Qp Qq Qr Qs))
 | 0=>⟨fun _ _ _ _ _ r h=>by simp [aI.l0] at h,fun _ _ _ _ _ _ _ _ _ _ _ _ r h=>by simp [aI.j1] at h,fun _ _ _ _ _ _ _ _ _ _ _ _ _ _ _ _ _ _ r h=>by simp [aI.l1] at h⟩
 | k + 1=>by
  obtain ⟨Iq,ih1,ih2⟩:=aI.eB k
  refine ⟨?_,?_,?_⟩
  ·intro y0 y1 y2 y3 y4
   unfold aI.l0
   repeat' first
   | (with_reducible exact Iq _ _ _ _ _)
   | (with_reducible exact ih1 _ _ _ _ _ _ _ _ _ _ _ _)
   | (with_reducible exact ih2 _ _ _ _ _ _ _ _ _ _ _ _ _ _ _ _ _ _)
   | (with_reducible exact LeO.refl _)
   | (with_reducible exact LeO.none _)
   | (with_reducible refine LeO.ite ?_ ?_)
   | (with_reducible refine LeO.bind ?_ (fun _=>?_))
   | exact Iq _ _ _ _ _
   | exact ih1 _ _ _ _ _ _ _ _ _ _ _ _
   | exact ih2 _ _ _ _ _ _ _ _ _ _ _ _ _ _ _ _ _ _
   | exact LeO.none _
   | refine LeO.ite ?_ ?_
   | refine LeO.bind ?_ (fun _=>?_)
  ·intro y0 y1 y2 y3 y4 y5 y6 y7 y8 y9 I8 I9
   unfold aI.j1
   repeat' first
   | (with_reducible exact Iq _ _ _ _ _)
   | (with_reducible exact ih1 _ _ _ _ _ _ _ _ _ _ _ _)
   | (with_reducible exact ih2 _ _ _ _ _ _ _ _ _ _ _ _ _ _ _ _ _ _)
   | (with_reducible exact LeO.refl _)
   | (with_reducible exact LeO.none _)
   | (with_reducible refine LeO.ite ?_ ?_)
   | (with_reducible refine LeO.bind ?_ (fun _=>?_))
   | exact Iq _ _ _ _ _
   | exact ih1 _ _ _ _ _ _ _ _ _ _ _ _
   | exact ih2 _ _ _ _ _ _ _ _ _ _ _ _ _ _ _ _ _ _
   | exact LeO.none _
   | refine LeO.ite ?_ ?_
   | refine LeO.bind ?_ (fun _=>?_)
  ·intro y0 y1 y2 y3 y4 y5 y6 y7 y8 y9 I8 I9 Qo y13 Qp Qq Qr Qs
   unfold aI.l1
   repeat' first
   | (with_reducible exact Iq _ _ _ _ _)
   | (with_reducible exact ih1 _ _ _ _ _ _ _ _ _ _ _ _)
   | (with_reducible exact ih2 _ _ _ _ _ _ _ _ _ _ _ _ _ _ _ _ _ _)
   | (with_reducible exact LeO.refl _)
   | (with_reducible exact LeO.none _)
   | (with_reducible refine LeO.ite ?_ ?_)
   | (with_reducible refine LeO.bind ?_ (fun _=>?_))
   | exact Iq _ _ _ _ _
   | exact ih1 _ _ _ _ _ _ _ _ _ _ _ _
   | exact ih2 _ _ _ _ _ _ _ _ _ _ _ _ _ _ _ _ _ _
   | exact LeO.none _
   | refine LeO.ite ?_ ?_
   | refine LeO.bind ?_ (fun _=>?_)
theorem aI.mono : ∀ a0 a1 k,LeO (aI.f k a0 a1) (aI.f (k + 1) a0 a1):=by
 intro a0 a1 k
 obtain ⟨Iq,ih1,ih2⟩:=aI.eB k
 unfold aI.f
 repeat' first
   | (with_reducible exact Iq _ _ _ _ _)
   | (with_reducible exact ih1 _ _ _ _ _ _ _ _ _ _ _ _)
   | (with_reducible exact ih2 _ _ _ _ _ _ _ _ _ _ _ _ _ _ _ _ _ _)
   | (with_reducible exact LeO.refl _)
   | (with_reducible exact LeO.none _)
   | (with_reducible refine LeO.ite ?_ ?_)
   | (with_reducible refine LeO.bind ?_ (fun _=>?_))
   | exact Iq _ _ _ _ _
   | exact ih1 _ _ _ _ _ _ _ _ _ _ _ _
   | exact ih2 _ _ _ _ _ _ _ _ _ _ _ _ _ _ _ _ _ _
   | exact LeO.none _
   | refine LeO.ite ?_ ?_
   | refine LeO.bind ?_ (fun _=>?_)
def aI.T8 : Bool × List (List Nat × List Nat):=(true,[([],[]),([0],[0]),([],[]),([1,2],[1,2]),([3],[3]),([4],[4]),([],[]),([6],[6]),([],[]),([8],[8]),([],[]),([10],[10]),([11],[11]),([],[]),([13],[13]),([14],[14]),([5,7,9,12,15],[5,7,9,12,15]),([],[]),([17,16,0,1,2,3,4,5,6,7,8,9,10,11,12,13,14,15,16,17],[16,17])])
def aI.B8 : List Nat:=[0,1,0,7,15,31,0,64,0,256,0,1024,3072,0,8192,24576,65535,0,262143]
theorem aI.Bp : gT .any (opsOf Tryz.f21 8) = aI.T8:=by kernel_rfl
theorem aI.AL : fO aI.T8.2 aI.B8 = true:=by kernel_rfl
set_option maxHeartbeats 8000000 in
set_option maxRecDepth 100000 in
theorem aI.calls (k : Nat) (Ck : Int) (ET : Option Addr) (Dn : Nat) (Bw : List (S96)) (r1 : Int) (r2 : List (S88)) (r3 : Bool) (w : World) (IQ : Kd.C k96 w ET Bw.length Bw) (IU : Bw.length ≤ Dn) (h : aI.f k Ck Bw = some (r1,r2,r3)) :
  Calls Tryz.prog 21 #[.agg #[.int .u64 Ck,.slice ET Bw.length Dn]] w fun e w'=>∃ SY : Value,e = .returned (.tuple #[.agg #[.int .u64 r1,SY],.bool r3]) ∧ Kd.S k88 88 w' w.heap.size (fun _=>True) SY r2 ∧ Below w.heap.size w w':=by
 have VB:=Tryz.underlying47
 have VD:=Tryz.underlying39
 have VE:=Tryz.underlying94
 have VF:=Tryz.underlying88
 have S9:=Tryz.underlying106
 have VG:=Tryz.underlying89
 have IV:=Aside0.mk IQ
 have Ta:=Aside0.mk IU
 clear IQ IU
 have HB:=Aside0.mk (Below.refl w.heap.size w)
 have H : (aI.l0 k 0 Ck Bw Ck ([] : List (S88))) = some (r1,r2,r3):=h
 clear h
 have H':=Aside0.mk H
 clear H
 go_enter Tryz.func21,Tryz.ntmps21
 go_wp2_with (first|((with_reducible refine bN (N:=1) rfl ?_);(try (refine eX (by rfl) ?_;dsimp only));refine bT ?hg (N:=1) ?hd (cs:=#[.int .u64 Ck,.slice ET Bw.length Dn]) (t:=47) ?hr ?_;(case hd=>rfl);(case hg=>rfl);(case hr=>first|(go_simp;done)|(go_simp;rfl));intro Ci hg w2 hbox hb;have D8:=Aside0.mk (aN hb_ hb);have D9:=Aside0.mk (hbox);have Ea:=Aside0.mk ((by rw [hg];exact (aR hb_) : w.heap.size ≤ Ci));have Eb:=Aside0.mk ((by rw [hg];exact (aR hb_) : w.heap.size ≤ Ci));clear HB;have HB:=D8;have BU:=D9;have Tc:=Ea;have Td:=Eb;clear D8 D9 Ea Eb;clear hb hbox hg)|((with_reducible refine bN (N:=2) rfl ?_);(try (refine eX (by rfl) ?_;dsimp only));refine bT ?hg (N:=2) ?hd (cs:=#[.int .u64 0,.slice none 0 0]) (t:=39) ?hr ?_;(case hd=>rfl);(case hg=>rfl);(case hr=>first|(go_simp;done)|(go_simp;rfl));intro Cc hg w3 hbox hb;have D8:=Aside0.mk (aJ (g:=Ci) (o:=.cells #[.int .u64 Ck,.slice ET Bw.length Dn] 47 (0,0)) (bk_ BU.out) hb);have D9:=Aside0.mk (aN hb_ hb);have Ea:=Aside0.mk (hbox);have Eb:=Aside0.mk ((by rw [hg];exact (aR hb_) : w.heap.size ≤ Cc));have Ef:=Aside0.mk ((by rw [hg];exact (aR hb_) : w.heap.size ≤ Cc));have Eh:=Aside0.mk ((by rw [hg];exact Nat.ne_of_lt (aW (g:=Ci) (o:=.cells #[.int .u64 Ck,.slice ET Bw.length Dn] 47 (0,0)) (bk_ BU.out)) : Ci ≠ Cc));have Ei:=Aside0.mk ((by rw [hg];exact Nat.ne_of_gt (aW (g:=Ci) (o:=.cells #[.int .u64 Ck,.slice ET Bw.length Dn] 47 (0,0)) (bk_ BU.out)) : Cc ≠ Ci));clear BU;clear HB;have BU:=D8;have HB:=D9;have BN:=Ea;have Te:=Eb;have Tf:=Ef;have Dx:=Eh;have Dy:=Ei;clear D8 D9 Ea Eb Ef Eh Ei;clear hb hbox hg;have VH:=Dx.out;have VI:=Dy.out;have Fv : w3.cell? ⟨Ci,0,none⟩ = some (.int .u64 Ck):=(ah BU.out 0).trans rfl;have Fw : w3.cell? ⟨Ci,1,none⟩ = some (.slice ET Bw.length Dn):=(ah BU.out 1).trans rfl;have Fx:=av BU.out 0;have Fy:=av BU.out 1)|((with_reducible refine bN (N:=4) rfl ?_);(try (refine eX (by rfl) ?_;dsimp only));refine bT ?hg (N:=4) ?hd (cs:=#[.int .u64 0,.slice none 0 0]) (t:=39) ?hr ?_;(case hd=>rfl);(case hg=>rfl);(case hr=>first|(go_simp;done)|(go_simp;rfl));intro Cm hg w6 hbox hb;have D8:=Aside0.mk (aJ (g:=Ci) (o:=.cells #[.int .u64 Ck,.slice ET Bw.length Dn] 47 (0,0)) (bk_ BU.out) hb);have D9:=Aside0.mk (aJ (g:=Cc) (o:=.cells #[.int .u64 0,.slice none 0 0] 39 (0,0)) (bk_ BN.out) hb);have Ea:=Aside0.mk (aN hb_ hb);have Eb:=Aside0.mk (hbox);have Ef:=Aside0.mk ((by rw [hg];exact (aR hb_) : w.heap.size ≤ Cm));have Eh:=Aside0.mk ((by rw [hg];exact (aR hb_) : w.heap.size ≤ Cm));have Ei:=Aside0.mk ((by rw [hg];exact Nat.ne_of_lt (aW (g:=Ci) (o:=.cells #[.int .u64 Ck,.slice ET Bw.length Dn] 47 (0,0)) (bk_ BU.out)) : Ci ≠ Cm));have EC:=Aside0.mk ((by rw [hg];exact Nat.ne_of_gt (aW (g:=Ci) (o:=.cells #[.int .u64 Ck,.slice ET Bw.length Dn] 47 (0,0)) (bk_ BU.out)) : Cm ≠ Ci));have ED:=Aside0.mk ((by rw [hg];exact Nat.ne_of_lt (aW (g:=Cc) (o:=.cells #[.int .u64 0,.slice none 0 0] 39 (0,0)) (bk_ BN.out)) : Cc ≠ Cm));have EW:=Aside0.mk ((by rw [hg];exact Nat.ne_of_gt (aW (g:=Cc) (o:=.cells #[.int .u64 0,.slice none 0 0] 39 (0,0)) (bk_ BN.out)) : Cm ≠ Cc));clear BU;clear BN;clear HB;have BU:=D8;have BN:=D9;have HB:=Ea;have BZ:=Eb;have Tg:=Ef;have Ti:=Eh;have DN:=Ei;have Er:=EC;have Df:=ED;have Dz:=EW;clear D8 D9 Ea Eb Ef Eh Ei EC ED EW;clear hb hbox hg;have VJ:=Er.out;have VK:=DN.out;have VL:=Dz.out;have VN:=Df.out;have Fz : w6.cell? ⟨Cm,0,none⟩ = some (.int .u64 0):=(ah BZ.out 0).trans rfl;have FB : w6.cell? ⟨Cm,1,none⟩ = some (.slice none 0 0):=(ah BZ.out 1).trans rfl;have FC:=av BZ.out 0;have FD:=av BZ.out 1))
 go_loopg [5] k (fun kq v5 w'=>∃ (Bz : Int) (CX : Int) (CY : List (S88)) (Ch : Value),v5 = .int .i64 Bz ∧ Aside0 (aI.l0 kq Bz Ck Bw Ck CY = some (r1,r2,r3)) ∧ Aside0 (kq ≤ k) ∧ Aside0 (Kd.S k88 88 w' w.heap.size (fun _=>True) Ch CY) ∧ Aside0 (w'.heap[Ci]? = some (.cells #[.int .u64 Ck,(.slice ET Bw.length Dn)] 47 (0,0))) ∧ Aside0 (w'.heap[Cc]? = some (.cells #[.int .u64 CX,(.slice none 0 0)] 39 (0,0))) ∧ Aside0 (w'.heap[Cm]? = some (.cells #[.int .u64 Ck,Ch] 39 (0,0))) ∧ Aside0 (Below w.heap.size w w'))
 case atStart=>exact ⟨(0),(0),(([] : List (S88))),(.slice none 0 0),(by first|rfl|(simp;done)|(simp [*];done)),H',⟨Nat.le_refl _⟩,⟨by first|exact Kd.lW _ _ _ _ _|exact Kd.jw _ _ _ _ _|exact Kd.kR _ _ _ _ _|exact Kd.lT _ _ _ _ _|exact Kd.je _ _ _ _ _⟩,⟨by (with_reducible repeat (first|apply aj|apply ay|apply ak));refine aD ?_ DN.out _;(with_reducible repeat (first|apply aj|apply ay|apply ak));refine aD ?_ DN.out _;(with_reducible repeat (first|apply aj|apply ay|apply ak));exact BU.out⟩,⟨by (with_reducible repeat (first|apply aj|apply ay|apply ak));refine aD ?_ Df.out _;(with_reducible repeat (first|apply aj|apply ay|apply ak));refine aD ?_ Df.out _;(with_reducible repeat (first|apply aj|apply ay|apply ak));exact BN.out⟩,⟨by (with_reducible repeat (first|apply aj|apply ay|apply ak));refine aQ (cs:=#[.int .u64 Ck,.slice none 0 0]) ?_ 1 _ rfl;(with_reducible repeat (first|apply aj|apply ay|apply ak));refine aQ (cs:=#[.int .u64 0,.slice none 0 0]) ?_ 0 _ rfl;(with_reducible repeat (first|apply aj|apply ay|apply ak));exact BZ.out⟩,⟨hb_⟩⟩
 case round =>
  clear H'
  try clear c2
  try clear p2
  try clear c4
  try clear c7
  try clear c8
  try clear Fv
  try clear Fw
  try clear Fz
  try clear FB
  try clear Fx
  try clear Fy
  try clear FC
  try clear FD
  obtain ⟨Bz,CX,CY,Ch,rfl,HA,Ir,BL,BU,BN,BZ,HB⟩:=hrel
  cases gk with
  | zero=>exact absurd HA.out (by simp [aI.l0])
  | succ k1 =>
   have H:=HA.out
   clear HA
   simp only [aI.l0] at H
   by_cases c10 : Bz < (Bw.length : Int)
   ·rw [if_pos c10] at H
    have c10b0 : decide (Bz < (Bw.length : Int)) = true:=decide_eq_true c10
    clear c10
    by_cases c11 : 0 ≤ Bz
    ·rw [if_pos c11] at H
     have c11b0 : decide (0 ≤ Bz) = true:=decide_eq_true c11
     clear c11
     have Ja:=Aside0.mk H
     clear H
     have Tj:=Dx.out
     have Tk:=Dy.out
     have Tm:=DN.out
     have Tn:=Er.out
     have FP : wr.cell? ⟨Ci,0,none⟩ = some (.int .u64 Ck):=(ah BU.out 0).trans rfl
     have FQ : wr.cell? ⟨Ci,1,none⟩ = some (.slice ET Bw.length Dn):=(ah BU.out 1).trans rfl
     have FR:=av BU.out 0
     have FT:=av BU.out 1
     have Ik : 0 ≤ (Bz : Int):=of_decide_eq_true (by first|(with_reducible assumption)|assumption)
     have Il : Bz < (Bw.length : Int):=of_decide_eq_true (by first|(with_reducible assumption)|assumption)
     obtain ⟨CJ,Dv,Cn,e232,EF,EG,EH,EI,EJ,EK,EL,FU,FV⟩:=wo IV.out Bz Ik Il
     cases e232
     replace EF:=(HB.out.cell (World.block_lt_of_cell? w _ EF)).trans EF
     replace EG:=(HB.out.cell (World.block_lt_of_cell? w _ EG)).trans EG
     replace EH:=(HB.out.cell (World.block_lt_of_cell? w _ EH)).trans EH
     replace EI:=(HB.out.cell (World.block_lt_of_cell? w _ EI)).trans EI
     replace EJ:=(HB.out.cell (World.block_lt_of_cell? w _ EJ)).trans EJ
     replace EK:=(HB.out.cell (World.block_lt_of_cell? w _ EK)).trans EK
     replace EL:=(HB.out.cell (World.block_lt_of_cell? w _ EL)).trans EL
     have Es:=Aside0.mk FV
     have NK:=Aside0.mk FU
     clear FV FU
     replace Ik:=eq_true Ik
     replace Il:=eq_true Il
     go_upto_region 6 with (first|((with_reducible refine bN (N:=6) rfl ?_);(try (refine eX (by rfl) ?_;dsimp only));refine bT ?hg (N:=6) ?hd (cs:=#[.string (⟨#[]⟩ : ByteArray),.string (⟨#[]⟩ : ByteArray),.int .i64 0,.int .i64 0,.bool false,.slice none 0 0]) (t:=94) ?hr ?_;(case hd=>rfl);(case hg=>rfl);(case hr=>first|(go_simp;done)|(go_simp;rfl));intro BH hg w16 hbox hb;have D8:=Aside0.mk (Kd.fB (by (with_reducible repeat (first|apply Kd.dw|apply Kd.dx|apply Kd.dN));exact BL.out) hb);have D9:=Aside0.mk (aJ (g:=Ci) (o:=.cells #[.int .u64 Ck,.slice (some CJ) Bw.length Dn] 47 (0,0)) (bk_ BU.out) hb);have Ea:=Aside0.mk (aJ (g:=Cc) (o:=.cells #[.int .u64 CX,.slice none 0 0] 39 (0,0)) (bk_ BN.out) hb);have Eb:=Aside0.mk (aJ (g:=Cm) (o:=.cells #[.int .u64 Ck,Ch] 39 (0,0)) (bk_ BZ.out) hb);have Ef:=Aside0.mk (aN hb_ hb);have Eh:=Aside0.mk (hbox);have Ei:=Aside0.mk ((by rw [hg];exact (aR hb_) : w.heap.size ≤ BH));have EC:=Aside0.mk ((by rw [hg];exact (aR hb_) : w.heap.size ≤ BH));have ED:=Aside0.mk ((by rw [hg];exact Nat.ne_of_lt (aW (g:=Ci) (o:=.cells #[.int .u64 Ck,.slice (some CJ) Bw.length Dn] 47 (0,0)) (bk_ BU.out)) : Ci ≠ BH));have EW:=Aside0.mk ((by rw [hg];exact Nat.ne_of_gt (aW (g:=Ci) (o:=.cells #[.int .u64 Ck,.slice (some CJ) Bw.length Dn] 47 (0,0)) (bk_ BU.out)) : BH ≠ Ci));have DV:=Aside0.mk ((by rw [hg];exact Nat.ne_of_lt (aW (g:=Cc) (o:=.cells #[.int .u64 CX,.slice none 0 0] 39 (0,0)) (bk_ BN.out)) : Cc ≠ BH));have DW:=Aside0.mk ((by rw [hg];exact Nat.ne_of_gt (aW (g:=Cc) (o:=.cells #[.int .u64 CX,.slice none 0 0] 39 (0,0)) (bk_ BN.out)) : BH ≠ Cc));have DX:=Aside0.mk ((by rw [hg];exact Nat.ne_of_lt (aW (g:=Cm) (o:=.cells #[.int .u64 Ck,Ch] 39 (0,0)) (bk_ BZ.out)) : Cm ≠ BH));have DY:=Aside0.mk ((by rw [hg];exact Nat.ne_of_gt (aW (g:=Cm) (o:=.cells #[.int .u64 Ck,Ch] 39 (0,0)) (bk_ BZ.out)) : BH ≠ Cm));clear BL;clear BU;clear BN;clear BZ;clear HB;have BL:=D8;have BU:=D9;have BN:=Ea;have BZ:=Eb;have HB:=Ef;have BD:=Eh;have Tp:=Ei;have Tq:=EC;have BP:=ED;have C8:=EW;have BO:=DV;have CZ:=DW;have BQ:=DX;have C9:=DY;clear D8 D9 Ea Eb Ef Eh Ei EC ED EW DV DW DX DY;clear hb hbox hg;have Tt:=C8.out;have Tv:=BP.out;have Tw:=CZ.out;have Tx:=BO.out;have Tz:=C9.out;have TA:=BQ.out;have FW : w16.cell? ⟨BH,0,none⟩ = some (.string (⟨#[]⟩ : ByteArray)):=(ah BD.out 0).trans rfl;have FX : w16.cell? ⟨BH,1,none⟩ = some (.string (⟨#[]⟩ : ByteArray)):=(ah BD.out 1).trans rfl;have FY : w16.cell? ⟨BH,2,none⟩ = some (.int .i64 0):=(ah BD.out 2).trans rfl;have FZ : w16.cell? ⟨BH,3,none⟩ = some (.int .i64 0):=(ah BD.out 3).trans rfl;have F3 : w16.cell? ⟨BH,4,none⟩ = some (.bool false):=(ah BD.out 4).trans rfl;have F4 : w16.cell? ⟨BH,5,none⟩ = some (.slice none 0 0):=(ah BD.out 5).trans rfl;have F5:=av BD.out 0;have F6:=av BD.out 1;have F7:=av BD.out 2;have F8:=av BD.out 3;have F9:=av BD.out 4;have Ga:=av BD.out 5))
     (try simp only [Act.put,List.setIfInBounds_toArray,List.set_cons_zero,List.set_cons_succ])
     go_cut [47] (fun v47 wc=>∃ (kq : Nat) (Fb : Bool),v47 = .bool Fb ∧ Aside0 (aI.j1 kq Bz Fb Ck Bw Ck CY ((aA Bw Bz).f1.f0) ((aA Bw Bz).f1.f1) ((aA Bw Bz).f1.f2) ((aA Bw Bz).f1.f3) ((aA Bw Bz).f1.f4) ((aA Bw Bz).f1.f5) = some (r1,r2,r3)) ∧ Aside0 (kq ≤ k1) ∧ Aside0 (Kd.S k88 88 wc w.heap.size (fun _=>True) Ch CY) ∧ Aside0 (wc.heap[Ci]? = some (.cells #[.int .u64 Ck,(.slice (some CJ) Bw.length Dn)] 47 (0,0))) ∧ Aside0 (wc.heap[Cc]? = some (.cells #[.int .u64 CX,(.slice none 0 0)] 39 (0,0))) ∧ Aside0 (wc.heap[Cm]? = some (.cells #[.int .u64 Ck,Ch] 39 (0,0))) ∧ Aside0 (wc.heap[BH]? = some (.cells #[.string ((aA Bw Bz).f1.f0),.string ((aA Bw Bz).f1.f1),.int .i64 ((aA Bw Bz).f1.f2),.int .i64 ((aA Bw Bz).f1.f3),.bool ((aA Bw Bz).f1.f4),(.slice Dv ((aA Bw Bz).f1.f5).length Cn)] 94 (0,0))) ∧ Aside0 (Below w.heap.size w wc))
     case first =>
      have H:=Ja.out
      clear Ja
      by_cases c21 : ((aA Bw Bz).f1.f2) < 0
      ·rw [if_pos c21] at H
       have c21b0 : decide (((aA Bw Bz).f1.f2) < 0) = true:=decide_eq_true c21
       clear c21
       (first|rw [c21b0]|(simp only [bO,bR];rw [c21b0])|skip)
       have H':=Aside0.mk H
       clear H
       have TB:=C8.out
       have TD:=BP.out
       have TF:=CZ.out
       have TG:=BO.out
       have TH:=C9.out
       have TI:=BQ.out
       have Gb : w16.cell? ⟨BH,0,none⟩ = some (.string (⟨#[]⟩ : ByteArray)):=(ah BD.out 0).trans rfl
       have Gc : w16.cell? ⟨BH,1,none⟩ = some (.string (⟨#[]⟩ : ByteArray)):=(ah BD.out 1).trans rfl
       have Gd : w16.cell? ⟨BH,2,none⟩ = some (.int .i64 0):=(ah BD.out 2).trans rfl
       have Gf : w16.cell? ⟨BH,3,none⟩ = some (.int .i64 0):=(ah BD.out 3).trans rfl
       have Gg : w16.cell? ⟨BH,4,none⟩ = some (.bool false):=(ah BD.out 4).trans rfl
       have Gh : w16.cell? ⟨BH,5,none⟩ = some (.slice none 0 0):=(ah BD.out 5).trans rfl
       have Gi:=av BD.out 0
       have Gj:=av BD.out 1
       have Gl:=av BD.out 2
       have Gm:=av BD.out 3
       have Gn:=av BD.out 4
       have Gp:=av BD.out 5
       go_wp2
       go_meet
       case rel=>exact ⟨_,(true),(by first|rfl|(simp;done)|(simp [*];done)),H',⟨by have:=Ir.out;first|omega|exact Nat.le_refl _⟩,⟨by (with_reducible repeat (first|apply Kd.dw|apply Kd.dx|apply Kd.dN));exact Kd.fV (Kd.dB (p:=⟨BH,5,none⟩) (Kd.dB (p:=⟨BH,4,none⟩) (Kd.dB (p:=⟨BH,3,none⟩) (Kd.dB (p:=⟨BH,2,none⟩) (Kd.dB (p:=⟨BH,1,none⟩) (Kd.dB (p:=⟨BH,0,none⟩) (Kd.gV BL.out BD.out (by decide)) (fun _ hk=>hk.2) (.string ((aA Bw Bz).f1.f0))) (fun _ hk=>hk.2) (.string ((aA Bw Bz).f1.f1))) (fun _ hk=>hk.2) (.int .i64 ((aA Bw Bz).f1.f2))) (fun _ hk=>hk.2) (.int .i64 ((aA Bw Bz).f1.f3))) (fun _ hk=>hk.2) (.bool ((aA Bw Bz).f1.f4))) (fun _ hk=>hk.2) (.slice Dv ((aA Bw Bz).f1.f5).length Cn)) (fun _ hk=>trivial)⟩,⟨by (with_reducible repeat (first|apply aj|apply ay|apply ak));refine aD ?_ BP.out _;(with_reducible repeat (first|apply aj|apply ay|apply ak));refine aD ?_ BP.out _;(with_reducible repeat (first|apply aj|apply ay|apply ak));refine aD ?_ BP.out _;(with_reducible repeat (first|apply aj|apply ay|apply ak));refine aD ?_ BP.out _;(with_reducible repeat (first|apply aj|apply ay|apply ak));refine aD ?_ BP.out _;(with_reducible repeat (first|apply aj|apply ay|apply ak));refine aD ?_ BP.out _;(with_reducible repeat (first|apply aj|apply ay|apply ak));exact BU.out⟩,⟨by (with_reducible repeat (first|apply aj|apply ay|apply ak));refine aD ?_ BO.out _;(with_reducible repeat (first|apply aj|apply ay|apply ak));refine aD ?_ BO.out _;(with_reducible repeat (first|apply aj|apply ay|apply ak));refine aD ?_ BO.out _;(with_reducible repeat (first|apply aj|apply ay|apply ak));refine aD ?_ BO.out _;(with_reducible repeat (first|apply aj|apply ay|apply ak));refine aD ?_ BO.out _;(with_reducible repeat (first|apply aj|apply ay|apply ak));refine aD ?_ BO.out _;(with_reducible repeat (first|apply aj|apply ay|apply ak));exact BN.out⟩,⟨by (with_reducible repeat (first|apply aj|apply ay|apply ak));refine aD ?_ BQ.out _;(with_reducible repeat (first|apply aj|apply ay|apply ak));refine aD ?_ BQ.out _;(with_reducible repeat (first|apply aj|apply ay|apply ak));refine aD ?_ BQ.out _;(with_reducible repeat (first|apply aj|apply ay|apply ak));refine aD ?_ BQ.out _;(with_reducible repeat (first|apply aj|apply ay|apply ak));refine aD ?_ BQ.out _;(with_reducible repeat (first|apply aj|apply ay|apply ak));refine aD ?_ BQ.out _;(with_reducible repeat (first|apply aj|apply ay|apply ak));exact BZ.out⟩,⟨by (with_reducible repeat (first|apply aj|apply ay|apply ak));refine aQ (cs:=#[.string ((aA Bw Bz).f1.f0),.string ((aA Bw Bz).f1.f1),.int .i64 ((aA Bw Bz).f1.f2),.int .i64 ((aA Bw Bz).f1.f3),.bool ((aA Bw Bz).f1.f4),.slice none 0 0]) ?_ 5 _ rfl;(with_reducible repeat (first|apply aj|apply ay|apply ak));refine aQ (cs:=#[.string ((aA Bw Bz).f1.f0),.string ((aA Bw Bz).f1.f1),.int .i64 ((aA Bw Bz).f1.f2),.int .i64 ((aA Bw Bz).f1.f3),.bool false,.slice none 0 0]) ?_ 4 _ rfl;(with_reducible repeat (first|apply aj|apply ay|apply ak));refine aQ (cs:=#[.string ((aA Bw Bz).f1.f0),.string ((aA Bw Bz).f1.f1),.int .i64 ((aA Bw Bz).f1.f2),.int .i64 0,.bool false,.slice none 0 0]) ?_ 3 _ rfl;(with_reducible repeat (first|apply aj|apply ay|apply ak));refine aQ (cs:=#[.string ((aA Bw Bz).f1.f0),.string ((aA Bw Bz).f1.f1),.int .i64 0,.int .i64 0,.bool false,.slice none 0 0]) ?_ 2 _ rfl;(with_reducible repeat (first|apply aj|apply ay|apply ak));refine aQ (cs:=#[.string ((aA Bw Bz).f1.f0),.string (⟨#[]⟩ : ByteArray),.int .i64 0,.int .i64 0,.bool false,.slice none 0 0]) ?_ 1 _ rfl;(with_reducible repeat (first|apply aj|apply ay|apply ak));refine aQ (cs:=#[.string (⟨#[]⟩ : ByteArray),.string (⟨#[]⟩ : ByteArray),.int .i64 0,.int .i64 0,.bool false,.slice none 0 0]) ?_ 0 _ rfl;(with_reducible repeat (first|apply aj|apply ay|apply ak));exact BD.out⟩,⟨hb_⟩⟩
      ·rw [if_neg c21] at H
       have c21b0 : decide (((aA Bw Bz).f1.f2) < 0) = false:=decide_eq_false c21
       clear c21
       (first|rw [c21b0]|(simp only [bO,bR];rw [c21b0])|skip)
       by_cases IW : ((aA Bw Bz).f1.f2) > 255
       ·rw [if_pos IW] at H
        have c26b0 : decide (255 < ((aA Bw Bz).f1.f2)) = true:=decide_eq_true IW
        clear IW
        have H':=Aside0.mk H
        clear H
        have TJ:=C8.out
        have TK:=BP.out
        have TL:=CZ.out
        have TM:=BO.out
        have TN:=C9.out
        have TP:=BQ.out
        have Gq : w16.cell? ⟨BH,0,none⟩ = some (.string (⟨#[]⟩ : ByteArray)):=(ah BD.out 0).trans rfl
        have Gr : w16.cell? ⟨BH,1,none⟩ = some (.string (⟨#[]⟩ : ByteArray)):=(ah BD.out 1).trans rfl
        have Gs : w16.cell? ⟨BH,2,none⟩ = some (.int .i64 0):=(ah BD.out 2).trans rfl
        have Gt : w16.cell? ⟨BH,3,none⟩ = some (.int .i64 0):=(ah BD.out 3).trans rfl
        have Gu : w16.cell? ⟨BH,4,none⟩ = some (.bool false):=(ah BD.out 4).trans rfl
        have Gv : w16.cell? ⟨BH,5,none⟩ = some (.slice none 0 0):=(ah BD.out 5).trans rfl
        have Gw:=av BD.out 0
        have Gx:=av BD.out 1
        have Gy:=av BD.out 2
        have Gz:=av BD.out 3
        have GA:=av BD.out 4
        have GD:=av BD.out 5
        go_wp2
        go_meet
        case rel=>exact ⟨_,(true),(by first|rfl|(simp;done)|(simp [*];done)),H',⟨by have:=Ir.out;first|omega|exact Nat.le_refl _⟩,⟨by (with_reducible repeat (first|apply Kd.dw|apply Kd.dx|apply Kd.dN));exact Kd.fV (Kd.dB (p:=⟨BH,5,none⟩) (Kd.dB (p:=⟨BH,4,none⟩) (Kd.dB (p:=⟨BH,3,none⟩) (Kd.dB (p:=⟨BH,2,none⟩) (Kd.dB (p:=⟨BH,1,none⟩) (Kd.dB (p:=⟨BH,0,none⟩) (Kd.gV BL.out BD.out (by decide)) (fun _ hk=>hk.2) (.string ((aA Bw Bz).f1.f0))) (fun _ hk=>hk.2) (.string ((aA Bw Bz).f1.f1))) (fun _ hk=>hk.2) (.int .i64 ((aA Bw Bz).f1.f2))) (fun _ hk=>hk.2) (.int .i64 ((aA Bw Bz).f1.f3))) (fun _ hk=>hk.2) (.bool ((aA Bw Bz).f1.f4))) (fun _ hk=>hk.2) (.slice Dv ((aA Bw Bz).f1.f5).length Cn)) (fun _ hk=>trivial)⟩,⟨by (with_reducible repeat (first|apply aj|apply ay|apply ak));refine aD ?_ BP.out _;(with_reducible repeat (first|apply aj|apply ay|apply ak));refine aD ?_ BP.out _;(with_reducible repeat (first|apply aj|apply ay|apply ak));refine aD ?_ BP.out _;(with_reducible repeat (first|apply aj|apply ay|apply ak));refine aD ?_ BP.out _;(with_reducible repeat (first|apply aj|apply ay|apply ak));refine aD ?_ BP.out _;(with_reducible repeat (first|apply aj|apply ay|apply ak));refine aD ?_ BP.out _;(with_reducible repeat (first|apply aj|apply ay|apply ak));exact BU.out⟩,⟨by (with_reducible repeat (first|apply aj|apply ay|apply ak));refine aD ?_ BO.out _;(with_reducible repeat (first|apply aj|apply ay|apply ak));refine aD ?_ BO.out _;(with_reducible repeat (first|apply aj|apply ay|apply ak));refine aD ?_ BO.out _;(with_reducible repeat (first|apply aj|apply ay|apply ak));refine aD ?_ BO.out _;(with_reducible repeat (first|apply aj|apply ay|apply ak));refine aD ?_ BO.out _;(with_reducible repeat (first|apply aj|apply ay|apply ak));refine aD ?_ BO.out _;(with_reducible repeat (first|apply aj|apply ay|apply ak));exact BN.out⟩,⟨by (with_reducible repeat (first|apply aj|apply ay|apply ak));refine aD ?_ BQ.out _;(with_reducible repeat (first|apply aj|apply ay|apply ak));refine aD ?_ BQ.out _;(with_reducible repeat (first|apply aj|apply ay|apply ak));refine aD ?_ BQ.out _;(with_reducible repeat (first|apply aj|apply ay|apply ak));refine aD ?_ BQ.out _;(with_reducible repeat (first|apply aj|apply ay|apply ak));refine aD ?_ BQ.out _;(with_reducible repeat (first|apply aj|apply ay|apply ak));refine aD ?_ BQ.out _;(with_reducible repeat (first|apply aj|apply ay|apply ak));exact BZ.out⟩,⟨by (with_reducible repeat (first|apply aj|apply ay|apply ak));refine aQ (cs:=#[.string ((aA Bw Bz).f1.f0),.string ((aA Bw Bz).f1.f1),.int .i64 ((aA Bw Bz).f1.f2),.int .i64 ((aA Bw Bz).f1.f3),.bool ((aA Bw Bz).f1.f4),.slice none 0 0]) ?_ 5 _ rfl;(with_reducible repeat (first|apply aj|apply ay|apply ak));refine aQ (cs:=#[.string ((aA Bw Bz).f1.f0),.string ((aA Bw Bz).f1.f1),.int .i64 ((aA Bw Bz).f1.f2),.int .i64 ((aA Bw Bz).f1.f3),.bool false,.slice none 0 0]) ?_ 4 _ rfl;(with_reducible repeat (first|apply aj|apply ay|apply ak));refine aQ (cs:=#[.string ((aA Bw Bz).f1.f0),.string ((aA Bw Bz).f1.f1),.int .i64 ((aA Bw Bz).f1.f2),.int .i64 0,.bool false,.slice none 0 0]) ?_ 3 _ rfl;(with_reducible repeat (first|apply aj|apply ay|apply ak));refine aQ (cs:=#[.string ((aA Bw Bz).f1.f0),.string ((aA Bw Bz).f1.f1),.int .i64 0,.int .i64 0,.bool false,.slice none 0 0]) ?_ 2 _ rfl;(with_reducible repeat (first|apply aj|apply ay|apply ak));refine aQ (cs:=#[.string ((aA Bw Bz).f1.f0),.string (⟨#[]⟩ : ByteArray),.int .i64 0,.int .i64 0,.bool false,.slice none 0 0]) ?_ 1 _ rfl;(with_reducible repeat (first|apply aj|apply ay|apply ak));refine aQ (cs:=#[.string (⟨#[]⟩ : ByteArray),.string (⟨#[]⟩ : ByteArray),.int .i64 0,.int .i64 0,.bool false,.slice none 0 0]) ?_ 0 _ rfl;(with_reducible repeat (first|apply aj|apply ay|apply ak));exact BD.out⟩,⟨hb_⟩⟩
       ·rw [if_neg IW] at H
        have c26b0 : decide (255 < ((aA Bw Bz).f1.f2)) = false:=decide_eq_false IW
        clear IW
        by_cases c31 : ((aA Bw Bz).f1.f3) < 0
        ·rw [if_pos c31] at H
         have c31b0 : decide (((aA Bw Bz).f1.f3) < 0) = true:=decide_eq_true c31
         clear c31
         have H':=Aside0.mk H
         clear H
         have TQ:=C8.out
         have TR:=BP.out
         have TS:=CZ.out
         have TT:=BO.out
         have TU:=C9.out
         have TV:=BQ.out
         have GI : w16.cell? ⟨BH,0,none⟩ = some (.string (⟨#[]⟩ : ByteArray)):=(ah BD.out 0).trans rfl
         have GJ : w16.cell? ⟨BH,1,none⟩ = some (.string (⟨#[]⟩ : ByteArray)):=(ah BD.out 1).trans rfl
         have GK : w16.cell? ⟨BH,2,none⟩ = some (.int .i64 0):=(ah BD.out 2).trans rfl
         have GL : w16.cell? ⟨BH,3,none⟩ = some (.int .i64 0):=(ah BD.out 3).trans rfl
         have GN : w16.cell? ⟨BH,4,none⟩ = some (.bool false):=(ah BD.out 4).trans rfl
         have GQ : w16.cell? ⟨BH,5,none⟩ = some (.slice none 0 0):=(ah BD.out 5).trans rfl
         have GR:=av BD.out 0
         have GU:=av BD.out 1
         have GV:=av BD.out 2
         have GX:=av BD.out 3
         have GY:=av BD.out 4
         have GZ:=av BD.out 5
         go_wp2
         go_meet
         case rel=>exact ⟨_,(true),(by first|rfl|(simp;done)|(simp [*];done)),H',⟨by have:=Ir.out;first|omega|exact Nat.le_refl _⟩,⟨by (with_reducible repeat (first|apply Kd.dw|apply Kd.dx|apply Kd.dN));exact Kd.fV (Kd.dB (p:=⟨BH,5,none⟩) (Kd.dB (p:=⟨BH,4,none⟩) (Kd.dB (p:=⟨BH,3,none⟩) (Kd.dB (p:=⟨BH,2,none⟩) (Kd.dB (p:=⟨BH,1,none⟩) (Kd.dB (p:=⟨BH,0,none⟩) (Kd.gV BL.out BD.out (by decide)) (fun _ hk=>hk.2) (.string ((aA Bw Bz).f1.f0))) (fun _ hk=>hk.2) (.string ((aA Bw Bz).f1.f1))) (fun _ hk=>hk.2) (.int .i64 ((aA Bw Bz).f1.f2))) (fun _ hk=>hk.2) (.int .i64 ((aA Bw Bz).f1.f3))) (fun _ hk=>hk.2) (.bool ((aA Bw Bz).f1.f4))) (fun _ hk=>hk.2) (.slice Dv ((aA Bw Bz).f1.f5).length Cn)) (fun _ hk=>trivial)⟩,⟨by (with_reducible repeat (first|apply aj|apply ay|apply ak));refine aD ?_ BP.out _;(with_reducible repeat (first|apply aj|apply ay|apply ak));refine aD ?_ BP.out _;(with_reducible repeat (first|apply aj|apply ay|apply ak));refine aD ?_ BP.out _;(with_reducible repeat (first|apply aj|apply ay|apply ak));refine aD ?_ BP.out _;(with_reducible repeat (first|apply aj|apply ay|apply ak));refine aD ?_ BP.out _;(with_reducible repeat (first|apply aj|apply ay|apply ak));refine aD ?_ BP.out _;(with_reducible repeat (first|apply aj|apply ay|apply ak));exact BU.out⟩,⟨by (with_reducible repeat (first|apply aj|apply ay|apply ak));refine aD ?_ BO.out _;(with_reducible repeat (first|apply aj|apply ay|apply ak));refine aD ?_ BO.out _;(with_reducible repeat (first|apply aj|apply ay|apply ak));refine aD ?_ BO.out _;(with_reducible repeat (first|apply aj|apply ay|apply ak));refine aD ?_ BO.out _;(with_reducible repeat (first|apply aj|apply ay|apply ak));refine aD ?_ BO.out _;(with_reducible repeat (first|apply aj|apply ay|apply ak));refine aD ?_ BO.out _;(with_reducible repeat (first|apply aj|apply ay|apply ak));exact BN.out⟩,⟨by (with_reducible repeat (first|apply aj|apply ay|apply ak));refine aD ?_ BQ.out _;(with_reducible repeat (first|apply aj|apply ay|apply ak));refine aD ?_ BQ.out _;(with_reducible repeat (first|apply aj|apply ay|apply ak));refine aD ?_ BQ.out _;(with_reducible repeat (first|apply aj|apply ay|apply ak));refine aD ?_ BQ.out _;(with_reducible repeat (first|apply aj|apply ay|apply ak));refine aD ?_ BQ.out _;(with_reducible repeat (first|apply aj|apply ay|apply ak));refine aD ?_ BQ.out _;(with_reducible repeat (first|apply aj|apply ay|apply ak));exact BZ.out⟩,⟨by (with_reducible repeat (first|apply aj|apply ay|apply ak));refine aQ (cs:=#[.string ((aA Bw Bz).f1.f0),.string ((aA Bw Bz).f1.f1),.int .i64 ((aA Bw Bz).f1.f2),.int .i64 ((aA Bw Bz).f1.f3),.bool ((aA Bw Bz).f1.f4),.slice none 0 0]) ?_ 5 _ rfl;(with_reducible repeat (first|apply aj|apply ay|apply ak));refine aQ (cs:=#[.string ((aA Bw Bz).f1.f0),.string ((aA Bw Bz).f1.f1),.int .i64 ((aA Bw Bz).f1.f2),.int .i64 ((aA Bw Bz).f1.f3),.bool false,.slice none 0 0]) ?_ 4 _ rfl;(with_reducible repeat (first|apply aj|apply ay|apply ak));refine aQ (cs:=#[.string ((aA Bw Bz).f1.f0),.string ((aA Bw Bz).f1.f1),.int .i64 ((aA Bw Bz).f1.f2),.int .i64 0,.bool false,.slice none 0 0]) ?_ 3 _ rfl;(with_reducible repeat (first|apply aj|apply ay|apply ak));refine aQ (cs:=#[.string ((aA Bw Bz).f1.f0),.string ((aA Bw Bz).f1.f1),.int .i64 0,.int .i64 0,.bool false,.slice none 0 0]) ?_ 2 _ rfl;(with_reducible repeat (first|apply aj|apply ay|apply ak));refine aQ (cs:=#[.string ((aA Bw Bz).f1.f0),.string (⟨#[]⟩ : ByteArray),.int .i64 0,.int .i64 0,.bool false,.slice none 0 0]) ?_ 1 _ rfl;(with_reducible repeat (first|apply aj|apply ay|apply ak));refine aQ (cs:=#[.string (⟨#[]⟩ : ByteArray),.string (⟨#[]⟩ : ByteArray),.int .i64 0,.int .i64 0,.bool false,.slice none 0 0]) ?_ 0 _ rfl;(with_reducible repeat (first|apply aj|apply ay|apply ak));exact BD.out⟩,⟨hb_⟩⟩
        ·rw [if_neg c31] at H
         have c31b0 : decide (((aA Bw Bz).f1.f3) < 0) = false:=decide_eq_false c31
         clear c31
         by_cases IX : ((aA Bw Bz).f1.f3) > 65535
         ·rw [if_pos IX] at H
          have c36b0 : decide (65535 < ((aA Bw Bz).f1.f3)) = true:=decide_eq_true IX
          clear IX
          have H':=Aside0.mk H
          clear H
          have TW:=C8.out
          have TY:=BP.out
          have Ua:=CZ.out
          have Ub:=BO.out
          have Uc:=C9.out
          have Ud:=BQ.out
          have G6 : w16.cell? ⟨BH,0,none⟩ = some (.string (⟨#[]⟩ : ByteArray)):=(ah BD.out 0).trans rfl
          have G7 : w16.cell? ⟨BH,1,none⟩ = some (.string (⟨#[]⟩ : ByteArray)):=(ah BD.out 1).trans rfl
          have G8 : w16.cell? ⟨BH,2,none⟩ = some (.int .i64 0):=(ah BD.out 2).trans rfl
          have G9 : w16.cell? ⟨BH,3,none⟩ = some (.int .i64 0):=(ah BD.out 3).trans rfl
          have He : w16.cell? ⟨BH,4,none⟩ = some (.bool false):=(ah BD.out 4).trans rfl
          have Hf : w16.cell? ⟨BH,5,none⟩ = some (.slice none 0 0):=(ah BD.out 5).trans rfl
          have Hg:=av BD.out 0
          have Hl:=av BD.out 1
          have Ho:=av BD.out 2
          have Hq:=av BD.out 3
          have Hr:=av BD.out 4
          have Ht:=av BD.out 5
          go_wp2
          go_meet
          case rel=>exact ⟨_,(true),(by first|rfl|(simp;done)|(simp [*];done)),H',⟨by have:=Ir.out;first|omega|exact Nat.le_refl _⟩,⟨by (with_reducible repeat (first|apply Kd.dw|apply Kd.dx|apply Kd.dN));exact Kd.fV (Kd.dB (p:=⟨BH,5,none⟩) (Kd.dB (p:=⟨BH,4,none⟩) (Kd.dB (p:=⟨BH,3,none⟩) (Kd.dB (p:=⟨BH,2,none⟩) (Kd.dB (p:=⟨BH,1,none⟩) (Kd.dB (p:=⟨BH,0,none⟩) (Kd.gV BL.out BD.out (by decide)) (fun _ hk=>hk.2) (.string ((aA Bw Bz).f1.f0))) (fun _ hk=>hk.2) (.string ((aA Bw Bz).f1.f1))) (fun _ hk=>hk.2) (.int .i64 ((aA Bw Bz).f1.f2))) (fun _ hk=>hk.2) (.int .i64 ((aA Bw Bz).f1.f3))) (fun _ hk=>hk.2) (.bool ((aA Bw Bz).f1.f4))) (fun _ hk=>hk.2) (.slice Dv ((aA Bw Bz).f1.f5).length Cn)) (fun _ hk=>trivial)⟩,⟨by (with_reducible repeat (first|apply aj|apply ay|apply ak));refine aD ?_ BP.out _;(with_reducible repeat (first|apply aj|apply ay|apply ak));refine aD ?_ BP.out _;(with_reducible repeat (first|apply aj|apply ay|apply ak));refine aD ?_ BP.out _;(with_reducible repeat (first|apply aj|apply ay|apply ak));refine aD ?_ BP.out _;(with_reducible repeat (first|apply aj|apply ay|apply ak));refine aD ?_ BP.out _;(with_reducible repeat (first|apply aj|apply ay|apply ak));refine aD ?_ BP.out _;(with_reducible repeat (first|apply aj|apply ay|apply ak));exact BU.out⟩,⟨by (with_reducible repeat (first|apply aj|apply ay|apply ak));refine aD ?_ BO.out _;(with_reducible repeat (first|apply aj|apply ay|apply ak));refine aD ?_ BO.out _;(with_reducible repeat (first|apply aj|apply ay|apply ak));refine aD ?_ BO.out _;(with_reducible repeat (first|apply aj|apply ay|apply ak));refine aD ?_ BO.out _;(with_reducible repeat (first|apply aj|apply ay|apply ak));refine aD ?_ BO.out _;(with_reducible repeat (first|apply aj|apply ay|apply ak));refine aD ?_ BO.out _;(with_reducible repeat (first|apply aj|apply ay|apply ak));exact BN.out⟩,⟨by (with_reducible repeat (first|apply aj|apply ay|apply ak));refine aD ?_ BQ.out _;(with_reducible repeat (first|apply aj|apply ay|apply ak));refine aD ?_ BQ.out _;(with_reducible repeat (first|apply aj|apply ay|apply ak));refine aD ?_ BQ.out _;(with_reducible repeat (first|apply aj|apply ay|apply ak));refine aD ?_ BQ.out _;(with_reducible repeat (first|apply aj|apply ay|apply ak));refine aD ?_ BQ.out _;(with_reducible repeat (first|apply aj|apply ay|apply ak));refine aD ?_ BQ.out _;(with_reducible repeat (first|apply aj|apply ay|apply ak));exact BZ.out⟩,⟨by (with_reducible repeat (first|apply aj|apply ay|apply ak));refine aQ (cs:=#[.string ((aA Bw Bz).f1.f0),.string ((aA Bw Bz).f1.f1),.int .i64 ((aA Bw Bz).f1.f2),.int .i64 ((aA Bw Bz).f1.f3),.bool ((aA Bw Bz).f1.f4),.slice none 0 0]) ?_ 5 _ rfl;(with_reducible repeat (first|apply aj|apply ay|apply ak));refine aQ (cs:=#[.string ((aA Bw Bz).f1.f0),.string ((aA Bw Bz).f1.f1),.int .i64 ((aA Bw Bz).f1.f2),.int .i64 ((aA Bw Bz).f1.f3),.bool false,.slice none 0 0]) ?_ 4 _ rfl;(with_reducible repeat (first|apply aj|apply ay|apply ak));refine aQ (cs:=#[.string ((aA Bw Bz).f1.f0),.string ((aA Bw Bz).f1.f1),.int .i64 ((aA Bw Bz).f1.f2),.int .i64 0,.bool false,.slice none 0 0]) ?_ 3 _ rfl;(with_reducible repeat (first|apply aj|apply ay|apply ak));refine aQ (cs:=#[.string ((aA Bw Bz).f1.f0),.string ((aA Bw Bz).f1.f1),.int .i64 0,.int .i64 0,.bool false,.slice none 0 0]) ?_ 2 _ rfl;(with_reducible repeat (first|apply aj|apply ay|apply ak));refine aQ (cs:=#[.string ((aA Bw Bz).f1.f0),.string (⟨#[]⟩ : ByteArray),.int .i64 0,.int .i64 0,.bool false,.slice none 0 0]) ?_ 1 _ rfl;(with_reducible repeat (first|apply aj|apply ay|apply ak));refine aQ (cs:=#[.string (⟨#[]⟩ : ByteArray),.string (⟨#[]⟩ : ByteArray),.int .i64 0,.int .i64 0,.bool false,.slice none 0 0]) ?_ 0 _ rfl;(with_reducible repeat (first|apply aj|apply ay|apply ak));exact BD.out⟩,⟨hb_⟩⟩
         ·rw [if_neg IX] at H
          have c36b0 : decide (65535 < ((aA Bw Bz).f1.f3)) = false:=decide_eq_false IX
          clear IX
          have H':=Aside0.mk H
          clear H
          have Ue:=C8.out
          have Uf:=BP.out
          have Ug:=CZ.out
          have Uh:=BO.out
          have Ui:=C9.out
          have Uj:=BQ.out
          have Hu : w16.cell? ⟨BH,0,none⟩ = some (.string (⟨#[]⟩ : ByteArray)):=(ah BD.out 0).trans rfl
          have Hw : w16.cell? ⟨BH,1,none⟩ = some (.string (⟨#[]⟩ : ByteArray)):=(ah BD.out 1).trans rfl
          have Hy : w16.cell? ⟨BH,2,none⟩ = some (.int .i64 0):=(ah BD.out 2).trans rfl
          have Hz : w16.cell? ⟨BH,3,none⟩ = some (.int .i64 0):=(ah BD.out 3).trans rfl
          have HY : w16.cell? ⟨BH,4,none⟩ = some (.bool false):=(ah BD.out 4).trans rfl
          have H6 : w16.cell? ⟨BH,5,none⟩ = some (.slice none 0 0):=(ah BD.out 5).trans rfl
          have H7:=av BD.out 0
          have H8:=av BD.out 1
          have H9:=av BD.out 2
          have Ia:=av BD.out 3
          have Ib:=av BD.out 4
          have Ic:=av BD.out 5
          go_wp2
          go_meet
          case rel=>exact ⟨_,((aA Bw Bz).f1.f4),(by first|rfl|(simp;done)|(simp [*];done)),H',⟨by have:=Ir.out;first|omega|exact Nat.le_refl _⟩,⟨by (with_reducible repeat (first|apply Kd.dw|apply Kd.dx|apply Kd.dN));exact Kd.fV (Kd.dB (p:=⟨BH,5,none⟩) (Kd.dB (p:=⟨BH,4,none⟩) (Kd.dB (p:=⟨BH,3,none⟩) (Kd.dB (p:=⟨BH,2,none⟩) (Kd.dB (p:=⟨BH,1,none⟩) (Kd.dB (p:=⟨BH,0,none⟩) (Kd.gV BL.out BD.out (by decide)) (fun _ hk=>hk.2) (.string ((aA Bw Bz).f1.f0))) (fun _ hk=>hk.2) (.string ((aA Bw Bz).f1.f1))) (fun _ hk=>hk.2) (.int .i64 ((aA Bw Bz).f1.f2))) (fun _ hk=>hk.2) (.int .i64 ((aA Bw Bz).f1.f3))) (fun _ hk=>hk.2) (.bool ((aA Bw Bz).f1.f4))) (fun _ hk=>hk.2) (.slice Dv ((aA Bw Bz).f1.f5).length Cn)) (fun _ hk=>trivial)⟩,⟨by (with_reducible repeat (first|apply aj|apply ay|apply ak));refine aD ?_ BP.out _;(with_reducible repeat (first|apply aj|apply ay|apply ak));refine aD ?_ BP.out _;(with_reducible repeat (first|apply aj|apply ay|apply ak));refine aD ?_ BP.out _;(with_reducible repeat (first|apply aj|apply ay|apply ak));refine aD ?_ BP.out _;(with_reducible repeat (first|apply aj|apply ay|apply ak));refine aD ?_ BP.out _;(with_reducible repeat (first|apply aj|apply ay|apply ak));refine aD ?_ BP.out _;(with_reducible repeat (first|apply aj|apply ay|apply ak));exact BU.out⟩,⟨by (with_reducible repeat (first|apply aj|apply ay|apply ak));refine aD ?_ BO.out _;(with_reducible repeat (first|apply aj|apply ay|apply ak));refine aD ?_ BO.out _;(with_reducible repeat (first|apply aj|apply ay|apply ak));refine aD ?_ BO.out _;(with_reducible repeat (first|apply aj|apply ay|apply ak));refine aD ?_ BO.out _;(with_reducible repeat (first|apply aj|apply ay|apply ak));refine aD ?_ BO.out _;(with_reducible repeat (first|apply aj|apply ay|apply ak));refine aD ?_ BO.out _;(with_reducible repeat (first|apply aj|apply ay|apply ak));exact BN.out⟩,⟨by (with_reducible repeat (first|apply aj|apply ay|apply ak));refine aD ?_ BQ.out _;(with_reducible repeat (first|apply aj|apply ay|apply ak));refine aD ?_ BQ.out _;(with_reducible repeat (first|apply aj|apply ay|apply ak));refine aD ?_ BQ.out _;(with_reducible repeat (first|apply aj|apply ay|apply ak));refine aD ?_ BQ.out _;(with_reducible repeat (first|apply aj|apply ay|apply ak));refine aD ?_ BQ.out _;(with_reducible repeat (first|apply aj|apply ay|apply ak));refine aD ?_ BQ.out _;(with_reducible repeat (first|apply aj|apply ay|apply ak));exact BZ.out⟩,⟨by (with_reducible repeat (first|apply aj|apply ay|apply ak));refine aQ (cs:=#[.string ((aA Bw Bz).f1.f0),.string ((aA Bw Bz).f1.f1),.int .i64 ((aA Bw Bz).f1.f2),.int .i64 ((aA Bw Bz).f1.f3),.bool ((aA Bw Bz).f1.f4),.slice none 0 0]) ?_ 5 _ rfl;(with_reducible repeat (first|apply aj|apply ay|apply ak));refine aQ (cs:=#[.string ((aA Bw Bz).f1.f0),.string ((aA Bw Bz).f1.f1),.int .i64 ((aA Bw Bz).f1.f2),.int .i64 ((aA Bw Bz).f1.f3),.bool false,.slice none 0 0]) ?_ 4 _ rfl;(with_reducible repeat (first|apply aj|apply ay|apply ak));refine aQ (cs:=#[.string ((aA Bw Bz).f1.f0),.string ((aA Bw Bz).f1.f1),.int .i64 ((aA Bw Bz).f1.f2),.int .i64 0,.bool false,.slice none 0 0]) ?_ 3 _ rfl;(with_reducible repeat (first|apply aj|apply ay|apply ak));refine aQ (cs:=#[.string ((aA Bw Bz).f1.f0),.string ((aA Bw Bz).f1.f1),.int .i64 0,.int .i64 0,.bool false,.slice none 0 0]) ?_ 2 _ rfl;(with_reducible repeat (first|apply aj|apply ay|apply ak));refine aQ (cs:=#[.string ((aA Bw Bz).f1.f0),.string (⟨#[]⟩ : ByteArray),.int .i64 0,.int .i64 0,.bool false,.slice none 0 0]) ?_ 1 _ rfl;(with_reducible repeat (first|apply aj|apply ay|apply ak));refine aQ (cs:=#[.string (⟨#[]⟩ : ByteArray),.string (⟨#[]⟩ : ByteArray),.int .i64 0,.int .i64 0,.bool false,.slice none 0 0]) ?_ 0 _ rfl;(with_reducible repeat (first|apply aj|apply ay|apply ak));exact BD.out⟩,⟨hb_⟩⟩
     case rest =>
      clear Ja
      try clear c1
      try clear c2
      try clear p2
      try clear q2
      try clear hx2
      try clear c3
      try clear c4
      try clear c7
      try clear c8
      try clear c10
      try clear c10b0
      try clear c11
      try clear c11b0
      try clear c13
      try clear c14
      try clear c17
      try clear c18
      try clear c19
      try clear c21
      try clear c21b0
      try clear VO
      try clear c23
      try clear Uk
      try clear Ul
      try clear Qt
      try clear c24
      try clear IW
      try clear c26b0
      try clear VP
      try clear c28
      try clear VQ
      try clear c31
      try clear c31b0
      try clear c32
      try clear VR
      try clear c34
      try clear IX
      try clear c36b0
      try clear c37
      try clear VT
      try clear VU
      try clear VW
      try clear VX
      try clear VY
      try clear FP
      try clear FQ
      try clear FW
      try clear FX
      try clear FY
      try clear FZ
      try clear F3
      try clear F4
      try clear Gb
      try clear Gc
      try clear Gd
      try clear Gf
      try clear Gg
      try clear Gh
      try clear Gq
      try clear Gr
      try clear Gs
      try clear Gt
      try clear Gu
      try clear Gv
      try clear GI
      try clear GJ
      try clear GK
      try clear GL
      try clear GN
      try clear GQ
      try clear G6
      try clear G7
      try clear G8
      try clear G9
      try clear He
      try clear Hf
      try clear Hu
      try clear Hw
      try clear Hy
      try clear Hz
      try clear HY
      try clear H6
      try clear Fv
      try clear Fw
      try clear Fz
      try clear FB
      try clear FR
      try clear FT
      try clear F5
      try clear F6
      try clear F7
      try clear F8
      try clear F9
      try clear Ga
      try clear Gi
      try clear Gj
      try clear Gl
      try clear Gm
      try clear Gn
      try clear Gp
      try clear Gw
      try clear Gx
      try clear Gy
      try clear Gz
      try clear GA
      try clear GD
      try clear GR
      try clear GU
      try clear GV
      try clear GX
      try clear GY
      try clear GZ
      try clear Hg
      try clear Hl
      try clear Ho
      try clear Hq
      try clear Hr
      try clear Ht
      try clear H7
      try clear H8
      try clear H9
      try clear Ia
      try clear Ib
      try clear Ic
      try clear Fx
      try clear Fy
      try clear FC
      try clear FD
      try clear EF
      try clear EG
      try clear EH
      try clear EI
      try clear EJ
      try clear EK
      try clear EL
      try clear p2
      try clear Ik
      try clear Il
      obtain ⟨kq,Fb,rfl,HA,Iu,BL,BU,BN,BZ,BD,HB⟩:=hcut
      cases kq with
      | zero=>exact absurd HA.out (by simp [aI.j1])
      | succ Jb =>
       have H:=HA.out
       clear HA
       simp only [aI.j1] at H
       by_cases Jm : Fb = true
       ·subst Jm
        have H1 : (some (0,([] : List (S88)),false)) = some (r1,r2,r3):=by rw [if_pos rfl] at H;exact H
        clear H
        have H:=H1
        clear H1
        simp only [Option.some.injEq,Prod.mk.injEq] at H
        obtain ⟨rfl,rfl,rfl⟩:=H
        have Um:=Dy.out
        have Un:=Dx.out
        have Uo:=Df.out
        have Uq:=Dz.out
        have Ur:=BO.out
        have Us:=CZ.out
        have Iw : wc.cell? ⟨Cc,0,none⟩ = some (.int .u64 CX):=(ah BN.out 0).trans rfl
        have Iy : wc.cell? ⟨Cc,1,none⟩ = some (.slice none 0 0):=(ah BN.out 1).trans rfl
        have Iz:=av BN.out 0
        have IB:=av BN.out 1
        go_wp2
        refine bodyPost_ret (iy rfl _ _ Cc 39 #[.int .u64 0,.slice none 0 0] (0,0) _ rfl (by (with_reducible repeat (first|apply aj|apply ay|apply ak));refine aQ (cs:=#[.int .u64 0,.slice none 0 0]) ?_ 1 _ rfl;(with_reducible repeat (first|apply aj|apply ay|apply ak));refine aQ (cs:=#[.int .u64 CX,.slice none 0 0]) ?_ 0 _ rfl;(with_reducible repeat (first|apply aj|apply ay|apply ak));exact BN.out) Tryz.underlying39 rfl (by kernel_rfl)) rfl ?_
        exact ⟨_,by first|rfl|(simp [bg,bA] <;> rfl)|(simp [*,bg,bA] <;> rfl),by first|exact Kd.lW _ _ _ _ _|exact Kd.jw _ _ _ _ _|exact Kd.kR _ _ _ _ _|exact Kd.lT _ _ _ _ _|exact Kd.je _ _ _ _ _,hb_⟩
       ·replace Jm:=Bool.eq_false_iff.mpr Jm
        subst Jm
        have H1 : (if 0 ≤ Bz then (if Bz < (Bw.length : Int) then (aI.l1 Jb Bz 0 Ck Bw Ck CY ((aA Bw Bz).f1.f0) ((aA Bw Bz).f1.f1) ((aA Bw Bz).f1.f2) ((aA Bw Bz).f1.f3) ((aA Bw Bz).f1.f4) ((aA Bw Bz).f1.f5) ((aA Bw Bz).f0) ((aA Bw Bz).f1.f0) ((aA Bw Bz).f1.f1) ((((aA Bw Bz).f1.f2)) % 256) (IntKind.u16.wrap (((aA Bw Bz).f1.f3))) ([] : List (S89))) else (none)) else (none)) = some (r1,r2,r3):=by rw [if_neg (show ¬ (false = true) by decide)] at H;exact H
        clear H
        have H:=H1
        clear H1
        by_cases Jo : 0 ≤ Bz
        ·rw [if_pos Jo] at H
         have c50b0 : decide (0 ≤ Bz) = true:=decide_eq_true Jo
         clear Jo
         by_cases c51 : Bz < (Bw.length : Int)
         ·rw [if_pos c51] at H
          have c51b0 : decide (Bz < (Bw.length : Int)) = true:=decide_eq_true c51
          clear c51
          have H':=Aside0.mk H
          clear H
          try go_wp2
          have D8:=Aside0.mk (Kd.dN BL.out)
          have D9:=Aside0.mk (ay BU.out)
          have Ea:=Aside0.mk (ay BN.out)
          have Eb:=Aside0.mk (ay BZ.out)
          have Ef:=Aside0.mk (ay BD.out)
          have Eh:=Aside0.mk (bL HB.out)
          clear BL
          clear BU
          clear BN
          clear BZ
          clear BD
          clear HB
          have BL:=D8
          have BU:=D9
          have BN:=Ea
          have BZ:=Eb
          have BD:=Ef
          have HB:=Eh
          clear D8 D9 Ea Eb Ef Eh
          have IC : 0 ≤ (Bz : Int):=of_decide_eq_true (by first|(with_reducible assumption)|assumption)
          have IE : Bz < (Bw.length : Int):=of_decide_eq_true (by first|(with_reducible assumption)|assumption)
          obtain ⟨Jp,Jc,Jd,e234,Et,Eu,Ew,Ey,Ez,EA,EB,Ie,Ig⟩:=wo IV.out Bz IC IE
          have Cq:=EB
          have Cr:=EA
          have Ct:=Ez
          have Cu:=Ey
          have Cv:=Ew
          have Cw:=Eu
          have Cx:=Et
          obtain rfl : CJ = Jp:=(by injection e234)
          replace Et:=(HB.out.cell (World.block_lt_of_cell? w _ Et)).trans Et
          replace Eu:=(HB.out.cell (World.block_lt_of_cell? w _ Eu)).trans Eu
          replace Ew:=(HB.out.cell (World.block_lt_of_cell? w _ Ew)).trans Ew
          replace Ey:=(HB.out.cell (World.block_lt_of_cell? w _ Ey)).trans Ey
          replace Ez:=(HB.out.cell (World.block_lt_of_cell? w _ Ez)).trans Ez
          replace EA:=(HB.out.cell (World.block_lt_of_cell? w _ EA)).trans EA
          replace EB:=(HB.out.cell (World.block_lt_of_cell? w _ EB)).trans EB
          have IG:=Aside0.mk Ig
          have NM:=Aside0.mk Ie
          clear Ig Ie
          replace IC:=eq_true IC
          replace IE:=eq_true IE
          refine gZ (n:=19) (S:=fun w'=>w'.cell? ⟨Ci,0,none⟩ = some (.int .u64 Ck) ∧ w'.cell? ⟨Ci,1,none⟩ = some (.slice (some CJ) Bw.length Dn) ∧ w'.cell? ⟨BH,0,none⟩ = some (.string ((aA Bw Bz).f1.f0)) ∧ w'.cell? ⟨BH,1,none⟩ = some (.string ((aA Bw Bz).f1.f1)) ∧ w'.cell? ⟨BH,2,none⟩ = some (.int .i64 ((aA Bw Bz).f1.f2)) ∧ w'.cell? ⟨BH,3,none⟩ = some (.int .i64 ((aA Bw Bz).f1.f3)) ∧ w'.cell? ⟨BH,4,none⟩ = some (.bool ((aA Bw Bz).f1.f4)) ∧ w'.cell? ⟨BH,5,none⟩ = some (.slice Dv ((aA Bw Bz).f1.f5).length Cn) ∧ w'.cell? (CJ.add ((Bz).toNat * 7)) = some (.string ((aA Bw Bz).f0)) ∧ w'.cell? ⟨(CJ.add ((Bz).toNat * 7)).block,(CJ.add ((Bz).toNat * 7)).off + 1,none⟩ = some (.string ((aA Bw Bz).f1.f0)) ∧ w'.cell? ⟨(CJ.add ((Bz).toNat * 7)).block,(CJ.add ((Bz).toNat * 7)).off + 2,none⟩ = some (.string ((aA Bw Bz).f1.f1)) ∧ w'.cell? ⟨(CJ.add ((Bz).toNat * 7)).block,(CJ.add ((Bz).toNat * 7)).off + 3,none⟩ = some (.int .i64 ((aA Bw Bz).f1.f2)) ∧ w'.cell? ⟨(CJ.add ((Bz).toNat * 7)).block,(CJ.add ((Bz).toNat * 7)).off + 4,none⟩ = some (.int .i64 ((aA Bw Bz).f1.f3)) ∧ w'.cell? ⟨(CJ.add ((Bz).toNat * 7)).block,(CJ.add ((Bz).toNat * 7)).off + 5,none⟩ = some (.bool ((aA Bw Bz).f1.f4)) ∧ w'.cell? ⟨(CJ.add ((Bz).toNat * 7)).block,(CJ.add ((Bz).toNat * 7)).off + 6,none⟩ = some (.slice Jc ((aA Bw Bz).f1.f5).length Jd)) (ds:=[]) #[O,O,O,O,O,O,O,O,O,O,O,O,O,O,O,O,O,O,O] (by kernel_rfl) rfl rfl ⟨(ah BU.out 0).trans rfl,(ah BU.out 1).trans rfl,(ah BD.out 0).trans rfl,(ah BD.out 1).trans rfl,(ah BD.out 2).trans rfl,(ah BD.out 3).trans rfl,(ah BD.out 4).trans rfl,(ah BD.out 5).trans rfl,((HB.out.cell (World.block_lt_of_cell? w _ Cx)).trans Cx),((HB.out.cell (World.block_lt_of_cell? w _ Cw)).trans Cw),((HB.out.cell (World.block_lt_of_cell? w _ Cv)).trans Cv),((HB.out.cell (World.block_lt_of_cell? w _ Cu)).trans Cu),((HB.out.cell (World.block_lt_of_cell? w _ Ct)).trans Ct),((HB.out.cell (World.block_lt_of_cell? w _ Cr)).trans Cr),((HB.out.cell (World.block_lt_of_cell? w _ Cq)).trans Cq)⟩ (fun hHeld=>?_);refine eY aI.Bp aI.AL (fun HT_ HW_=>?_)
          generalize wc.drew = Wd at BL BU BN BZ BD HB IG Et Eu Ew Ey Ez EA EB hHeld ⊢
          refine pu_ 0 49 #[I,O,O,O,O,O,O,O,O,O,O,O,O,O,O,O,O,O,O] HT_.out ?_
          refine pu_ 2 51 #[I,O,I,O,O,O,O,O,O,O,O,O,O,O,O,O,O,O,O] HT_.out ?_
          refine pu_ 6 55 #[I,O,I,O,O,O,I,O,O,O,O,O,O,O,O,O,O,O,O] HT_.out ?_
          refine pu_ 8 57 #[I,O,I,O,O,O,I,O,I,O,O,O,O,O,O,O,O,O,O] HT_.out ?_
          refine pu_ 10 59 #[I,O,I,O,O,O,I,O,I,O,I,O,O,O,O,O,O,O,O] HT_.out ?_
          refine pu_ 13 62 #[I,O,I,O,O,O,I,O,I,O,I,O,O,I,O,O,O,O,O] HT_.out ?_
          refine ta_ 1 50 #[I,I,I,O,O,O,I,O,I,O,I,O,O,I,O,O,O,O,O] HT_.out HW_.out hHeld ?_
          refine pu_ 3 52 #[I,I,I,I,O,O,I,O,I,O,I,O,O,I,O,O,O,O,O] HT_.out ?_
          refine pu_ 4 53 #[I,I,I,I,I,O,I,O,I,O,I,O,O,I,O,O,O,O,O] HT_.out ?_
          refine ta_ 5 54 #[I,I,I,I,I,I,I,O,I,O,I,O,O,I,O,O,O,O,O] HT_.out HW_.out hHeld ?_
          refine ta_ 7 56 #[I,I,I,I,I,I,I,I,I,O,I,O,O,I,O,O,O,O,O] HT_.out HW_.out hHeld ?_
          refine ta_ 9 58 #[I,I,I,I,I,I,I,I,I,I,I,O,O,I,O,O,O,O,O] HT_.out HW_.out hHeld ?_
          refine ta_ 11 60 #[I,I,I,I,I,I,I,I,I,I,I,I,O,I,O,O,O,O,O] HT_.out HW_.out hHeld ?_
          refine pu_ 12 61 #[I,I,I,I,I,I,I,I,I,I,I,I,I,I,O,O,O,O,O] HT_.out ?_
          refine ta_ 14 63 #[I,I,I,I,I,I,I,I,I,I,I,I,I,I,I,O,O,O,O] HT_.out HW_.out hHeld ?_
          refine pu_ 15 64 #[I,I,I,I,I,I,I,I,I,I,I,I,I,I,I,I,O,O,O] HT_.out ?_
          refine pu_ 16 65 #[I,I,I,I,I,I,I,I,I,I,I,I,I,I,I,I,I,O,O] HT_.out ?_
          refine fU (i:=17) (N:=some 7) #[I,I,I,I,I,I,I,I,I,I,I,I,I,I,I,I,I,I,O] rfl rfl (cO HT_.out (by kernel_rfl)) (by decide) (fun K hK=>?_)
          refine nY ?hg (N:=7) ?hd (cs:=#[.string (⟨#[]⟩ : ByteArray),.string (⟨#[]⟩ : ByteArray),.string (⟨#[]⟩ : ByteArray),.int .u8 0,.int .u16 0,.slice none 0 0]) (t:=88) ?hr ?_;(case hd=>rfl);(case hg=>rfl);(case hr=>first|(go_simp;done)|(go_simp;rfl))
          intro BF hg Jh hbox hb
          have D8:=Aside0.mk (Kd.fB (Kd.qP (by (with_reducible repeat (first|apply Kd.dw|apply Kd.dx|apply Kd.dN));exact BL.out) BF (Nat.le_of_eq hg.symm)) hb)
          have D9:=Aside0.mk (aJ (g:=Ci) (o:=.cells #[.int .u64 Ck,.slice (some CJ) Bw.length Dn] 47 (0,0)) (bk_ BU.out) hb)
          have Ea:=Aside0.mk (aJ (g:=Cc) (o:=.cells #[.int .u64 CX,.slice none 0 0] 39 (0,0)) (bk_ BN.out) hb)
          have Eb:=Aside0.mk (aJ (g:=Cm) (o:=.cells #[.int .u64 Ck,Ch] 39 (0,0)) (bk_ BZ.out) hb)
          have Ef:=Aside0.mk (aJ (g:=BH) (o:=.cells #[.string ((aA Bw Bz).f1.f0),.string ((aA Bw Bz).f1.f1),.int .i64 ((aA Bw Bz).f1.f2),.int .i64 ((aA Bw Bz).f1.f3),.bool ((aA Bw Bz).f1.f4),.slice Dv ((aA Bw Bz).f1.f5).length Cn] 94 (0,0)) (bk_ BD.out) hb)
          have Eh:=Aside0.mk (aN hb_ hb)
          have Ei:=Aside0.mk (hbox)
          have EC:=Aside0.mk ((by rw [hg];exact (aR hb_) : w.heap.size ≤ BF))
          have ED:=Aside0.mk ((by rw [hg];exact (aR hb_) : w.heap.size ≤ BF))
          have EW:=Aside0.mk ((by rw [hg];exact Nat.ne_of_lt (aW (g:=Ci) (o:=.cells #[.int .u64 Ck,.slice (some CJ) Bw.length Dn] 47 (0,0)) (bk_ BU.out)) : Ci ≠ BF))
          have DV:=Aside0.mk ((by rw [hg];exact Nat.ne_of_gt (aW (g:=Ci) (o:=.cells #[.int .u64 Ck,.slice (some CJ) Bw.length Dn] 47 (0,0)) (bk_ BU.out)) : BF ≠ Ci))
          have DW:=Aside0.mk ((by rw [hg];exact Nat.ne_of_lt (aW (g:=Cc) (o:=.cells #[.int .u64 CX,.slice none 0 0] 39 (0,0)) (bk_ BN.out)) : Cc ≠ BF))
          have DX:=Aside0.mk ((by rw [hg];exact Nat.ne_of_gt (aW (g:=Cc) (o:=.cells #[.int .u64 CX,.slice none 0 0] 39 (0,0)) (bk_ BN.out)) : BF ≠ Cc))
          have DY:=Aside0.mk ((by rw [hg];exact Nat.ne_of_lt (aW (g:=Cm) (o:=.cells #[.int .u64 Ck,Ch] 39 (0,0)) (bk_ BZ.out)) : Cm ≠ BF))
          have Ec:=Aside0.mk ((by rw [hg];exact Nat.ne_of_gt (aW (g:=Cm) (o:=.cells #[.int .u64 Ck,Ch] 39 (0,0)) (bk_ BZ.out)) : BF ≠ Cm))
          have Ed:=Aside0.mk ((by rw [hg];exact Nat.ne_of_lt (aW (g:=BH) (o:=.cells #[.string ((aA Bw Bz).f1.f0),.string ((aA Bw Bz).f1.f1),.int .i64 ((aA Bw Bz).f1.f2),.int .i64 ((aA Bw Bz).f1.f3),.bool ((aA Bw Bz).f1.f4),.slice Dv ((aA Bw Bz).f1.f5).length Cn] 94 (0,0)) (bk_ BD.out)) : BH ≠ BF))
          have Ee:=Aside0.mk ((by rw [hg];exact Nat.ne_of_gt (aW (g:=BH) (o:=.cells #[.string ((aA Bw Bz).f1.f0),.string ((aA Bw Bz).f1.f1),.int .i64 ((aA Bw Bz).f1.f2),.int .i64 ((aA Bw Bz).f1.f3),.bool ((aA Bw Bz).f1.f4),.slice Dv ((aA Bw Bz).f1.f5).length Cn] 94 (0,0)) (bk_ BD.out)) : BF ≠ BH))
          clear BL
          clear BU
          clear BN
          clear BZ
          clear BD
          clear HB
          have BL:=D8
          have BU:=D9
          have BN:=Ea
          have BZ:=Eb
          have BD:=Ef
          have HB:=Eh
          have BS:=Ei
          have BG:=EC
          have Ut:=ED
          have Cj:=EW
          have DI:=DV
          have Co:=DW
          have Da:=DX
          have CW:=DY
          have DJ:=Ec
          have BJ:=Ed
          have Db:=Ee
          clear D8 D9 Ea Eb Ef Eh Ei EC ED EW DV DW DX DY Ec Ed Ee
          clear hb hbox hg
          refine hK.out _ _ ⟨(ah BU.out 0).trans rfl,(ah BU.out 1).trans rfl,(ah BD.out 0).trans rfl,(ah BD.out 1).trans rfl,(ah BD.out 2).trans rfl,(ah BD.out 3).trans rfl,(ah BD.out 4).trans rfl,(ah BD.out 5).trans rfl,((HB.out.cell (World.block_lt_of_cell? w _ Cx)).trans Cx),((HB.out.cell (World.block_lt_of_cell? w _ Cw)).trans Cw),((HB.out.cell (World.block_lt_of_cell? w _ Cv)).trans Cv),((HB.out.cell (World.block_lt_of_cell? w _ Cu)).trans Cu),((HB.out.cell (World.block_lt_of_cell? w _ Ct)).trans Ct),((HB.out.cell (World.block_lt_of_cell? w _ Cr)).trans Cr),((HB.out.cell (World.block_lt_of_cell? w _ Cq)).trans Cq)⟩ (fun hHeld=>?_)
          clear hK K
          refine dX (a':=?_) ?_ ?_
          rotate_left
          ·show Act.put _ (some 7) _ = _
           simp only [Act.put,List.setIfInBounds_toArray,List.set_cons_zero,List.set_cons_succ,bO,bR]
           rfl
          refine fU (i:=18) (N:=none) #[I,I,I,I,I,I,I,I,I,I,I,I,I,I,I,I,I,I,I] rfl rfl (cO HT_.out (by kernel_rfl)) (by decide) (fun K hK=>?_)
          have VZ : Jh.cell? ⟨BF,0,none⟩ = some (.string (⟨#[]⟩ : ByteArray)):=(ah BS.out 0).trans rfl
          have Uu:=av BS.out 0
          have NP:=Cj.out
          have NQ:=Co.out
          have NR:=CW.out
          have NS:=BJ.out
          have NT:=DI.out
          have NU:=Da.out
          have NV:=DJ.out
          have NW:=Db.out
          have V3 : Jh.cell? ⟨BF,1,none⟩ = some (.string (⟨#[]⟩ : ByteArray)):=(ah BS.out 1).trans rfl
          have Uv:=av BS.out 1
          have NY:=Cj.out
          have NZ:=Co.out
          have N7:=CW.out
          have N8:=BJ.out
          have N9:=DI.out
          have Oa:=Da.out
          have Ob:=DJ.out
          have Oc:=Db.out
          have V4 : Jh.cell? ⟨BF,2,none⟩ = some (.string (⟨#[]⟩ : ByteArray)):=(ah BS.out 2).trans rfl
          have Uw:=av BS.out 2
          have Od:=Cj.out
          have Oe:=Co.out
          have Og:=CW.out
          have Oh:=BJ.out
          have Oi:=DI.out
          have Oj:=Da.out
          have Ol:=DJ.out
          have Om:=Db.out
          have V5 : Jh.cell? ⟨BF,3,none⟩ = some (.int .u8 0):=(ah BS.out 3).trans rfl
          have Ux:=av BS.out 3
          have Oo:=Cj.out
          have Oq:=Co.out
          have Ot:=CW.out
          have Ou:=BJ.out
          have Ov:=DI.out
          have Ow:=Da.out
          have Ox:=DJ.out
          have Oy:=Db.out
          have V6 : Jh.cell? ⟨BF,4,none⟩ = some (.int .u16 0):=(ah BS.out 4).trans rfl
          have Uy:=av BS.out 4
          have Oz:=Cj.out
          have OA:=Co.out
          have OB:=CW.out
          have OC:=BJ.out
          have OD:=DI.out
          have OE:=Da.out
          have OG:=DJ.out
          have OH:=Db.out
          have V7 : Jh.cell? ⟨BF,5,none⟩ = some (.slice none 0 0):=(ah BS.out 5).trans rfl
          have Uz:=av BS.out 5
          have OI:=Cj.out
          have OJ:=Co.out
          have OL:=CW.out
          have OM:=BJ.out
          have OO:=DI.out
          have OP:=Da.out
          have OQ:=DJ.out
          have OT:=Db.out
          refine jZ (w1:=?_) (by rfl) rfl ?_ ?_
          rotate_left
          ·go_simp
           rfl
          refine hK.out _ _ ⟨((cell_far (p:=⟨BF,_,none⟩) Cj.out _).trans (((cell_far (p:=⟨BF,_,none⟩) Cj.out _).trans (((cell_far (p:=⟨BF,_,none⟩) Cj.out _).trans (((cell_far (p:=⟨BF,_,none⟩) Cj.out _).trans (((cell_far (p:=⟨BF,_,none⟩) Cj.out _).trans (((cell_far (p:=⟨BF,_,none⟩) Cj.out _).trans (hHeld.1)))))))))))),((cell_far (p:=⟨BF,_,none⟩) Cj.out _).trans (((cell_far (p:=⟨BF,_,none⟩) Cj.out _).trans (((cell_far (p:=⟨BF,_,none⟩) Cj.out _).trans (((cell_far (p:=⟨BF,_,none⟩) Cj.out _).trans (((cell_far (p:=⟨BF,_,none⟩) Cj.out _).trans (((cell_far (p:=⟨BF,_,none⟩) Cj.out _).trans (hHeld.2.1)))))))))))),((cell_far (p:=⟨BF,_,none⟩) BJ.out _).trans (((cell_far (p:=⟨BF,_,none⟩) BJ.out _).trans (((cell_far (p:=⟨BF,_,none⟩) BJ.out _).trans (((cell_far (p:=⟨BF,_,none⟩) BJ.out _).trans (((cell_far (p:=⟨BF,_,none⟩) BJ.out _).trans (((cell_far (p:=⟨BF,_,none⟩) BJ.out _).trans (hHeld.2.2.1)))))))))))),((cell_far (p:=⟨BF,_,none⟩) BJ.out _).trans (((cell_far (p:=⟨BF,_,none⟩) BJ.out _).trans (((cell_far (p:=⟨BF,_,none⟩) BJ.out _).trans (((cell_far (p:=⟨BF,_,none⟩) BJ.out _).trans (((cell_far (p:=⟨BF,_,none⟩) BJ.out _).trans (((cell_far (p:=⟨BF,_,none⟩) BJ.out _).trans (hHeld.2.2.2.1)))))))))))),((cell_far (p:=⟨BF,_,none⟩) BJ.out _).trans (((cell_far (p:=⟨BF,_,none⟩) BJ.out _).trans (((cell_far (p:=⟨BF,_,none⟩) BJ.out _).trans (((cell_far (p:=⟨BF,_,none⟩) BJ.out _).trans (((cell_far (p:=⟨BF,_,none⟩) BJ.out _).trans (((cell_far (p:=⟨BF,_,none⟩) BJ.out _).trans (hHeld.2.2.2.2.1)))))))))))),((cell_far (p:=⟨BF,_,none⟩) BJ.out _).trans (((cell_far (p:=⟨BF,_,none⟩) BJ.out _).trans (((cell_far (p:=⟨BF,_,none⟩) BJ.out _).trans (((cell_far (p:=⟨BF,_,none⟩) BJ.out _).trans (((cell_far (p:=⟨BF,_,none⟩) BJ.out _).trans (((cell_far (p:=⟨BF,_,none⟩) BJ.out _).trans (hHeld.2.2.2.2.2.1)))))))))))),((cell_far (p:=⟨BF,_,none⟩) BJ.out _).trans (((cell_far (p:=⟨BF,_,none⟩) BJ.out _).trans (((cell_far (p:=⟨BF,_,none⟩) BJ.out _).trans (((cell_far (p:=⟨BF,_,none⟩) BJ.out _).trans (((cell_far (p:=⟨BF,_,none⟩) BJ.out _).trans (((cell_far (p:=⟨BF,_,none⟩) BJ.out _).trans (hHeld.2.2.2.2.2.2.1)))))))))))),((cell_far (p:=⟨BF,_,none⟩) BJ.out _).trans (((cell_far (p:=⟨BF,_,none⟩) BJ.out _).trans (((cell_far (p:=⟨BF,_,none⟩) BJ.out _).trans (((cell_far (p:=⟨BF,_,none⟩) BJ.out _).trans (((cell_far (p:=⟨BF,_,none⟩) BJ.out _).trans (((cell_far (p:=⟨BF,_,none⟩) BJ.out _).trans (hHeld.2.2.2.2.2.2.2.1)))))))))))),((cell_far (p:=⟨BF,_,none⟩) (by first|exact Nat.ne_of_lt (Nat.lt_of_lt_of_le (by have:=World.block_lt_of_cell? _ _ Cx;first|rwa [add_block] at this|exact this) BG.out)|(rw [add_block];exact Nat.ne_of_lt (Nat.lt_of_lt_of_le (by have:=World.block_lt_of_cell? _ _ Cx;first|rwa [add_block] at this|exact this) BG.out))|(show (Addr.add _ _).block ≠ _;rw [add_block];exact Nat.ne_of_lt (Nat.lt_of_lt_of_le (by have:=World.block_lt_of_cell? _ _ Cx;first|rwa [add_block] at this|exact this) BG.out))|(dsimp only;exact Nat.ne_of_lt (Nat.lt_of_lt_of_le (by have:=World.block_lt_of_cell? _ _ Cx;first|rwa [add_block] at this|exact this) BG.out))) _).trans (((cell_far (p:=⟨BF,_,none⟩) (by first|exact Nat.ne_of_lt (Nat.lt_of_lt_of_le (by have:=World.block_lt_of_cell? _ _ Cx;first|rwa [add_block] at this|exact this) BG.out)|(rw [add_block];exact Nat.ne_of_lt (Nat.lt_of_lt_of_le (by have:=World.block_lt_of_cell? _ _ Cx;first|rwa [add_block] at this|exact this) BG.out))|(show (Addr.add _ _).block ≠ _;rw [add_block];exact Nat.ne_of_lt (Nat.lt_of_lt_of_le (by have:=World.block_lt_of_cell? _ _ Cx;first|rwa [add_block] at this|exact this) BG.out))|(dsimp only;exact Nat.ne_of_lt (Nat.lt_of_lt_of_le (by have:=World.block_lt_of_cell? _ _ Cx;first|rwa [add_block] at this|exact this) BG.out))) _).trans (((cell_far (p:=⟨BF,_,none⟩) (by first|exact Nat.ne_of_lt (Nat.lt_of_lt_of_le (by have:=World.block_lt_of_cell? _ _ Cx;first|rwa [add_block] at this|exact this) BG.out)|(rw [add_block];exact Nat.ne_of_lt (Nat.lt_of_lt_of_le (by have:=World.block_lt_of_cell? _ _ Cx;first|rwa [add_block] at this|exact this) BG.out))|(show (Addr.add _ _).block ≠ _;rw [add_block];exact Nat.ne_of_lt (Nat.lt_of_lt_of_le (by have:=World.block_lt_of_cell? _ _ Cx;first|rwa [add_block] at this|exact this) BG.out))|(dsimp only;exact Nat.ne_of_lt (Nat.lt_of_lt_of_le (by have:=World.block_lt_of_cell? _ _ Cx;first|rwa [add_block] at this|exact this) BG.out))) _).trans (((cell_far (p:=⟨BF,_,none⟩) (by first|exact Nat.ne_of_lt (Nat.lt_of_lt_of_le (by have:=World.block_lt_of_cell? _ _ Cx;first|rwa [add_block] at this|exact this) BG.out)|(rw [add_block];exact Nat.ne_of_lt (Nat.lt_of_lt_of_le (by have:=World.block_lt_of_cell? _ _ Cx;first|rwa [add_block] at this|exact this) BG.out))|(show (Addr.add _ _).block ≠ _;rw [add_block];exact Nat.ne_of_lt (Nat.lt_of_lt_of_le (by have:=World.block_lt_of_cell? _ _ Cx;first|rwa [add_block] at this|exact this) BG.out))|(dsimp only;exact Nat.ne_of_lt (Nat.lt_of_lt_of_le (by have:=World.block_lt_of_cell? _ _ Cx;first|rwa [add_block] at this|exact this) BG.out))) _).trans (((cell_far (p:=⟨BF,_,none⟩) (by first|exact Nat.ne_of_lt (Nat.lt_of_lt_of_le (by have:=World.block_lt_of_cell? _ _ Cx;first|rwa [add_block] at this|exact this) BG.out)|(rw [add_block];exact Nat.ne_of_lt (Nat.lt_of_lt_of_le (by have:=World.block_lt_of_cell? _ _ Cx;first|rwa [add_block] at this|exact this) BG.out))|(show (Addr.add _ _).block ≠ _;rw [add_block];exact Nat.ne_of_lt (Nat.lt_of_lt_of_le (by have:=World.block_lt_of_cell? _ _ Cx;first|rwa [add_block] at this|exact this) BG.out))|(dsimp only;exact Nat.ne_of_lt (Nat.lt_of_lt_of_le (by have:=World.block_lt_of_cell? _ _ Cx;first|rwa [add_block] at this|exact this) BG.out))) _).trans (((cell_far (p:=⟨BF,_,none⟩) (by first|exact Nat.ne_of_lt (Nat.lt_of_lt_of_le (by have:=World.block_lt_of_cell? _ _ Cx;first|rwa [add_block] at this|exact this) BG.out)|(rw [add_block];exact Nat.ne_of_lt (Nat.lt_of_lt_of_le (by have:=World.block_lt_of_cell? _ _ Cx;first|rwa [add_block] at this|exact this) BG.out))|(show (Addr.add _ _).block ≠ _;rw [add_block];exact Nat.ne_of_lt (Nat.lt_of_lt_of_le (by have:=World.block_lt_of_cell? _ _ Cx;first|rwa [add_block] at this|exact this) BG.out))|(dsimp only;exact Nat.ne_of_lt (Nat.lt_of_lt_of_le (by have:=World.block_lt_of_cell? _ _ Cx;first|rwa [add_block] at this|exact this) BG.out))) _).trans (hHeld.2.2.2.2.2.2.2.2.1)))))))))))),((cell_far (p:=⟨BF,_,none⟩) (by first|exact Nat.ne_of_lt (Nat.lt_of_lt_of_le (by have:=World.block_lt_of_cell? _ _ Cw;first|rwa [add_block] at this|exact this) BG.out)|(rw [add_block];exact Nat.ne_of_lt (Nat.lt_of_lt_of_le (by have:=World.block_lt_of_cell? _ _ Cw;first|rwa [add_block] at this|exact this) BG.out))|(show (Addr.add _ _).block ≠ _;rw [add_block];exact Nat.ne_of_lt (Nat.lt_of_lt_of_le (by have:=World.block_lt_of_cell? _ _ Cw;first|rwa [add_block] at this|exact this) BG.out))|(dsimp only;exact Nat.ne_of_lt (Nat.lt_of_lt_of_le (by have:=World.block_lt_of_cell? _ _ Cw;first|rwa [add_block] at this|exact this) BG.out))) _).trans (((cell_far (p:=⟨BF,_,none⟩) (by first|exact Nat.ne_of_lt (Nat.lt_of_lt_of_le (by have:=World.block_lt_of_cell? _ _ Cw;first|rwa [add_block] at this|exact this) BG.out)|(rw [add_block];exact Nat.ne_of_lt (Nat.lt_of_lt_of_le (by have:=World.block_lt_of_cell? _ _ Cw;first|rwa [add_block] at this|exact this) BG.out))|(show (Addr.add _ _).block ≠ _;rw [add_block];exact Nat.ne_of_lt (Nat.lt_of_lt_of_le (by have:=World.block_lt_of_cell? _ _ Cw;first|rwa [add_block] at this|exact this) BG.out))|(dsimp only;exact Nat.ne_of_lt (Nat.lt_of_lt_of_le (by have:=World.block_lt_of_cell? _ _ Cw;first|rwa [add_block] at this|exact this) BG.out))) _).trans (((cell_far (p:=⟨BF,_,none⟩) (by first|exact Nat.ne_of_lt (Nat.lt_of_lt_of_le (by have:=World.block_lt_of_cell? _ _ Cw;first|rwa [add_block] at this|exact this) BG.out)|(rw [add_block];exact Nat.ne_of_lt (Nat.lt_of_lt_of_le (by have:=World.block_lt_of_cell? _ _ Cw;first|rwa [add_block] at this|exact this) BG.out))|(show (Addr.add _ _).block ≠ _;rw [add_block];exact Nat.ne_of_lt (Nat.lt_of_lt_of_le (by have:=World.block_lt_of_cell? _ _ Cw;first|rwa [add_block] at this|exact this) BG.out))|(dsimp only;exact Nat.ne_of_lt (Nat.lt_of_lt_of_le (by have:=World.block_lt_of_cell? _ _ Cw;first|rwa [add_block] at this|exact this) BG.out))) _).trans (((cell_far (p:=⟨BF,_,none⟩) (by first|exact Nat.ne_of_lt (Nat.lt_of_lt_of_le (by have:=World.block_lt_of_cell? _ _ Cw;first|rwa [add_block] at this|exact this) BG.out)|(rw [add_block];exact Nat.ne_of_lt (Nat.lt_of_lt_of_le (by have:=World.block_lt_of_cell? _ _ Cw;first|rwa [add_block] at this|exact this) BG.out))|(show (Addr.add _ _).block ≠ _;rw [add_block];exact Nat.ne_of_lt (Nat.lt_of_lt_of_le (by have:=World.block_lt_of_cell? _ _ Cw;first|rwa [add_block] at this|exact this) BG.out))|(dsimp only;exact Nat.ne_of_lt (Nat.lt_of_lt_of_le (by have:=World.block_lt_of_cell? _ _ Cw;first|rwa [add_block] at this|exact this) BG.out))) _).trans (((cell_far (p:=⟨BF,_,none⟩) (by first|exact Nat.ne_of_lt (Nat.lt_of_lt_of_le (by have:=World.block_lt_of_cell? _ _ Cw;first|rwa [add_block] at this|exact this) BG.out)|(rw [add_block];exact Nat.ne_of_lt (Nat.lt_of_lt_of_le (by have:=World.block_lt_of_cell? _ _ Cw;first|rwa [add_block] at this|exact this) BG.out))|(show (Addr.add _ _).block ≠ _;rw [add_block];exact Nat.ne_of_lt (Nat.lt_of_lt_of_le (by have:=World.block_lt_of_cell? _ _ Cw;first|rwa [add_block] at this|exact this) BG.out))|(dsimp only;exact Nat.ne_of_lt (Nat.lt_of_lt_of_le (by have:=World.block_lt_of_cell? _ _ Cw;first|rwa [add_block] at this|exact this) BG.out))) _).trans (((cell_far (p:=⟨BF,_,none⟩) (by first|exact Nat.ne_of_lt (Nat.lt_of_lt_of_le (by have:=World.block_lt_of_cell? _ _ Cw;first|rwa [add_block] at this|exact this) BG.out)|(rw [add_block];exact Nat.ne_of_lt (Nat.lt_of_lt_of_le (by have:=World.block_lt_of_cell? _ _ Cw;first|rwa [add_block] at this|exact this) BG.out))|(show (Addr.add _ _).block ≠ _;rw [add_block];exact Nat.ne_of_lt (Nat.lt_of_lt_of_le (by have:=World.block_lt_of_cell? _ _ Cw;first|rwa [add_block] at this|exact this) BG.out))|(dsimp only;exact Nat.ne_of_lt (Nat.lt_of_lt_of_le (by have:=World.block_lt_of_cell? _ _ Cw;first|rwa [add_block] at this|exact this) BG.out))) _).trans (hHeld.2.2.2.2.2.2.2.2.2.1)))))))))))),((cell_far (p:=⟨BF,_,none⟩) (by first|exact Nat.ne_of_lt (Nat.lt_of_lt_of_le (by have:=World.block_lt_of_cell? _ _ Cv;first|rwa [add_block] at this|exact this) BG.out)|(rw [add_block];exact Nat.ne_of_lt (Nat.lt_of_lt_of_le (by have:=World.block_lt_of_cell? _ _ Cv;first|rwa [add_block] at this|exact this) BG.out))|(show (Addr.add _ _).block ≠ _;rw [add_block];exact Nat.ne_of_lt (Nat.lt_of_lt_of_le (by have:=World.block_lt_of_cell? _ _ Cv;first|rwa [add_block] at this|exact this) BG.out))|(dsimp only;exact Nat.ne_of_lt (Nat.lt_of_lt_of_le (by have:=World.block_lt_of_cell? _ _ Cv;first|rwa [add_block] at this|exact this) BG.out))) _).trans (((cell_far (p:=⟨BF,_,none⟩) (by first|exact Nat.ne_of_lt (Nat.lt_of_lt_of_le (by have:=World.block_lt_of_cell? _ _ Cv;first|rwa [add_block] at this|exact this) BG.out)|(rw [add_block];exact Nat.ne_of_lt (Nat.lt_of_lt_of_le (by have:=World.block_lt_of_cell? _ _ Cv;first|rwa [add_block] at this|exact this) BG.out))|(show (Addr.add _ _).block ≠ _;rw [add_block];exact Nat.ne_of_lt (Nat.lt_of_lt_of_le (by have:=World.block_lt_of_cell? _ _ Cv;first|rwa [add_block] at this|exact this) BG.out))|(dsimp only;exact Nat.ne_of_lt (Nat.lt_of_lt_of_le (by have:=World.block_lt_of_cell? _ _ Cv;first|rwa [add_block] at this|exact this) BG.out))) _).trans (((cell_far (p:=⟨BF,_,none⟩) (by first|exact Nat.ne_of_lt (Nat.lt_of_lt_of_le (by have:=World.block_lt_of_cell? _ _ Cv;first|rwa [add_block] at this|exact this) BG.out)|(rw [add_block];exact Nat.ne_of_lt (Nat.lt_of_lt_of_le (by have:=World.block_lt_of_cell? _ _ Cv;first|rwa [add_block] at this|exact this) BG.out))|(show (Addr.add _ _).block ≠ _;rw [add_block];exact Nat.ne_of_lt (Nat.lt_of_lt_of_le (by have:=World.block_lt_of_cell? _ _ Cv;first|rwa [add_block] at this|exact this) BG.out))|(dsimp only;exact Nat.ne_of_lt (Nat.lt_of_lt_of_le (by have:=World.block_lt_of_cell? _ _ Cv;first|rwa [add_block] at this|exact this) BG.out))) _).trans (((cell_far (p:=⟨BF,_,none⟩) (by first|exact Nat.ne_of_lt (Nat.lt_of_lt_of_le (by have:=World.block_lt_of_cell? _ _ Cv;first|rwa [add_block] at this|exact this) BG.out)|(rw [add_block];exact Nat.ne_of_lt (Nat.lt_of_lt_of_le (by have:=World.block_lt_of_cell? _ _ Cv;first|rwa [add_block] at this|exact this) BG.out))|(show (Addr.add _ _).block ≠ _;rw [add_block];exact Nat.ne_of_lt (Nat.lt_of_lt_of_le (by have:=World.block_lt_of_cell? _ _ Cv;first|rwa [add_block] at this|exact this) BG.out))|(dsimp only;exact Nat.ne_of_lt (Nat.lt_of_lt_of_le (by have:=World.block_lt_of_cell? _ _ Cv;first|rwa [add_block] at this|exact this) BG.out))) _).trans (((cell_far (p:=⟨BF,_,none⟩) (by first|exact Nat.ne_of_lt (Nat.lt_of_lt_of_le (by have:=World.block_lt_of_cell? _ _ Cv;first|rwa [add_block] at this|exact this) BG.out)|(rw [add_block];exact Nat.ne_of_lt (Nat.lt_of_lt_of_le (by have:=World.block_lt_of_cell? _ _ Cv;first|rwa [add_block] at this|exact this) BG.out))|(show (Addr.add _ _).block ≠ _;rw [add_block];exact Nat.ne_of_lt (Nat.lt_of_lt_of_le (by have:=World.block_lt_of_cell? _ _ Cv;first|rwa [add_block] at this|exact this) BG.out))|(dsimp only;exact Nat.ne_of_lt (Nat.lt_of_lt_of_le (by have:=World.block_lt_of_cell? _ _ Cv;first|rwa [add_block] at this|exact this) BG.out))) _).trans (((cell_far (p:=⟨BF,_,none⟩) (by first|exact Nat.ne_of_lt (Nat.lt_of_lt_of_le (by have:=World.block_lt_of_cell? _ _ Cv;first|rwa [add_block] at this|exact this) BG.out)|(rw [add_block];exact Nat.ne_of_lt (Nat.lt_of_lt_of_le (by have:=World.block_lt_of_cell? _ _ Cv;first|rwa [add_block] at this|exact this) BG.out))|(show (Addr.add _ _).block ≠ _;rw [add_block];exact Nat.ne_of_lt (Nat.lt_of_lt_of_le (by have:=World.block_lt_of_cell? _ _ Cv;first|rwa [add_block] at this|exact this) BG.out))|(dsimp only;exact Nat.ne_of_lt (Nat.lt_of_lt_of_le (by have:=World.block_lt_of_cell? _ _ Cv;first|rwa [add_block] at this|exact this) BG.out))) _).trans (hHeld.2.2.2.2.2.2.2.2.2.2.1)))))))))))),((cell_far (p:=⟨BF,_,none⟩) (by first|exact Nat.ne_of_lt (Nat.lt_of_lt_of_le (by have:=World.block_lt_of_cell? _ _ Cu;first|rwa [add_block] at this|exact this) BG.out)|(rw [add_block];exact Nat.ne_of_lt (Nat.lt_of_lt_of_le (by have:=World.block_lt_of_cell? _ _ Cu;first|rwa [add_block] at this|exact this) BG.out))|(show (Addr.add _ _).block ≠ _;rw [add_block];exact Nat.ne_of_lt (Nat.lt_of_lt_of_le (by have:=World.block_lt_of_cell? _ _ Cu;first|rwa [add_block] at this|exact this) BG.out))|(dsimp only;exact Nat.ne_of_lt (Nat.lt_of_lt_of_le (by have:=World.block_lt_of_cell? _ _ Cu;first|rwa [add_block] at this|exact this) BG.out))) _).trans (((cell_far (p:=⟨BF,_,none⟩) (by first|exact Nat.ne_of_lt (Nat.lt_of_lt_of_le (by have:=World.block_lt_of_cell? _ _ Cu;first|rwa [add_block] at this|exact this) BG.out)|(rw [add_block];exact Nat.ne_of_lt (Nat.lt_of_lt_of_le (by have:=World.block_lt_of_cell? _ _ Cu;first|rwa [add_block] at this|exact this) BG.out))|(show (Addr.add _ _).block ≠ _;rw [add_block];exact Nat.ne_of_lt (Nat.lt_of_lt_of_le (by have:=World.block_lt_of_cell? _ _ Cu;first|rwa [add_block] at this|exact this) BG.out))|(dsimp only;exact Nat.ne_of_lt (Nat.lt_of_lt_of_le (by have:=World.block_lt_of_cell? _ _ Cu;first|rwa [add_block] at this|exact this) BG.out))) _).trans (((cell_far (p:=⟨BF,_,none⟩) (by first|exact Nat.ne_of_lt (Nat.lt_of_lt_of_le (by have:=World.block_lt_of_cell? _ _ Cu;first|rwa [add_block] at this|exact this) BG.out)|(rw [add_block];exact Nat.ne_of_lt (Nat.lt_of_lt_of_le (by have:=World.block_lt_of_cell? _ _ Cu;first|rwa [add_block] at this|exact this) BG.out))|(show (Addr.add _ _).block ≠ _;rw [add_block];exact Nat.ne_of_lt (Nat.lt_of_lt_of_le (by have:=World.block_lt_of_cell? _ _ Cu;first|rwa [add_block] at this|exact this) BG.out))|(dsimp only;exact Nat.ne_of_lt (Nat.lt_of_lt_of_le (by have:=World.block_lt_of_cell? _ _ Cu;first|rwa [add_block] at this|exact this) BG.out))) _).trans (((cell_far (p:=⟨BF,_,none⟩) (by first|exact Nat.ne_of_lt (Nat.lt_of_lt_of_le (by have:=World.block_lt_of_cell? _ _ Cu;first|rwa [add_block] at this|exact this) BG.out)|(rw [add_block];exact Nat.ne_of_lt (Nat.lt_of_lt_of_le (by have:=World.block_lt_of_cell? _ _ Cu;first|rwa [add_block] at this|exact this) BG.out))|(show (Addr.add _ _).block ≠ _;rw [add_block];exact Nat.ne_of_lt (Nat.lt_of_lt_of_le (by have:=World.block_lt_of_cell? _ _ Cu;first|rwa [add_block] at this|exact this) BG.out))|(dsimp only;exact Nat.ne_of_lt (Nat.lt_of_lt_of_le (by have:=World.block_lt_of_cell? _ _ Cu;first|rwa [add_block] at this|exact this) BG.out))) _).trans (((cell_far (p:=⟨BF,_,none⟩) (by first|exact Nat.ne_of_lt (Nat.lt_of_lt_of_le (by have:=World.block_lt_of_cell? _ _ Cu;first|rwa [add_block] at this|exact this) BG.out)|(rw [add_block];exact Nat.ne_of_lt (Nat.lt_of_lt_of_le (by have:=World.block_lt_of_cell? _ _ Cu;first|rwa [add_block] at this|exact this) BG.out))|(show (Addr.add _ _).block ≠ _;rw [add_block];exact Nat.ne_of_lt (Nat.lt_of_lt_of_le (by have:=World.block_lt_of_cell? _ _ Cu;first|rwa [add_block] at this|exact this) BG.out))|(dsimp only;exact Nat.ne_of_lt (Nat.lt_of_lt_of_le (by have:=World.block_lt_of_cell? _ _ Cu;first|rwa [add_block] at this|exact this) BG.out))) _).trans (((cell_far (p:=⟨BF,_,none⟩) (by first|exact Nat.ne_of_lt (Nat.lt_of_lt_of_le (by have:=World.block_lt_of_cell? _ _ Cu;first|rwa [add_block] at this|exact this) BG.out)|(rw [add_block];exact Nat.ne_of_lt (Nat.lt_of_lt_of_le (by have:=World.block_lt_of_cell? _ _ Cu;first|rwa [add_block] at this|exact this) BG.out))|(show (Addr.add _ _).block ≠ _;rw [add_block];exact Nat.ne_of_lt (Nat.lt_of_lt_of_le (by have:=World.block_lt_of_cell? _ _ Cu;first|rwa [add_block] at this|exact this) BG.out))|(dsimp only;exact Nat.ne_of_lt (Nat.lt_of_lt_of_le (by have:=World.block_lt_of_cell? _ _ Cu;first|rwa [add_block] at this|exact this) BG.out))) _).trans (hHeld.2.2.2.2.2.2.2.2.2.2.2.1)))))))))))),((cell_far (p:=⟨BF,_,none⟩) (by first|exact Nat.ne_of_lt (Nat.lt_of_lt_of_le (by have:=World.block_lt_of_cell? _ _ Ct;first|rwa [add_block] at this|exact this) BG.out)|(rw [add_block];exact Nat.ne_of_lt (Nat.lt_of_lt_of_le (by have:=World.block_lt_of_cell? _ _ Ct;first|rwa [add_block] at this|exact this) BG.out))|(show (Addr.add _ _).block ≠ _;rw [add_block];exact Nat.ne_of_lt (Nat.lt_of_lt_of_le (by have:=World.block_lt_of_cell? _ _ Ct;first|rwa [add_block] at this|exact this) BG.out))|(dsimp only;exact Nat.ne_of_lt (Nat.lt_of_lt_of_le (by have:=World.block_lt_of_cell? _ _ Ct;first|rwa [add_block] at this|exact this) BG.out))) _).trans (((cell_far (p:=⟨BF,_,none⟩) (by first|exact Nat.ne_of_lt (Nat.lt_of_lt_of_le (by have:=World.block_lt_of_cell? _ _ Ct;first|rwa [add_block] at this|exact this) BG.out)|(rw [add_block];exact Nat.ne_of_lt (Nat.lt_of_lt_of_le (by have:=World.block_lt_of_cell? _ _ Ct;first|rwa [add_block] at this|exact this) BG.out))|(show (Addr.add _ _).block ≠ _;rw [add_block];exact Nat.ne_of_lt (Nat.lt_of_lt_of_le (by have:=World.block_lt_of_cell? _ _ Ct;first|rwa [add_block] at this|exact this) BG.out))|(dsimp only;exact Nat.ne_of_lt (Nat.lt_of_lt_of_le (by have:=World.block_lt_of_cell? _ _ Ct;first|rwa [add_block] at this|exact this) BG.out))) _).trans (((cell_far (p:=⟨BF,_,none⟩) (by first|exact Nat.ne_of_lt (Nat.lt_of_lt_of_le (by have:=World.block_lt_of_cell? _ _ Ct;first|rwa [add_block] at this|exact this) BG.out)|(rw [add_block];exact Nat.ne_of_lt (Nat.lt_of_lt_of_le (by have:=World.block_lt_of_cell? _ _ Ct;first|rwa [add_block] at this|exact this) BG.out))|(show (Addr.add _ _).block ≠ _;rw [add_block];exact Nat.ne_of_lt (Nat.lt_of_lt_of_le (by have:=World.block_lt_of_cell? _ _ Ct;first|rwa [add_block] at this|exact this) BG.out))|(dsimp only;exact Nat.ne_of_lt (Nat.lt_of_lt_of_le (by have:=World.block_lt_of_cell? _ _ Ct;first|rwa [add_block] at this|exact this) BG.out))) _).trans (((cell_far (p:=⟨BF,_,none⟩) (by first|exact Nat.ne_of_lt (Nat.lt_of_lt_of_le (by have:=World.block_lt_of_cell? _ _ Ct;first|rwa [add_block] at this|exact this) BG.out)|(rw [add_block];exact Nat.ne_of_lt (Nat.lt_of_lt_of_le (by have:=World.block_lt_of_cell? _ _ Ct;first|rwa [add_block] at this|exact this) BG.out))|(show (Addr.add _ _).block ≠ _;rw [add_block];exact Nat.ne_of_lt (Nat.lt_of_lt_of_le (by have:=World.block_lt_of_cell? _ _ Ct;first|rwa [add_block] at this|exact this) BG.out))|(dsimp only;exact Nat.ne_of_lt (Nat.lt_of_lt_of_le (by have:=World.block_lt_of_cell? _ _ Ct;first|rwa [add_block] at this|exact this) BG.out))) _).trans (((cell_far (p:=⟨BF,_,none⟩) (by first|exact Nat.ne_of_lt (Nat.lt_of_lt_of_le (by have:=World.block_lt_of_cell? _ _ Ct;first|rwa [add_block] at this|exact this) BG.out)|(rw [add_block];exact Nat.ne_of_lt (Nat.lt_of_lt_of_le (by have:=World.block_lt_of_cell? _ _ Ct;first|rwa [add_block] at this|exact this) BG.out))|(show (Addr.add _ _).block ≠ _;rw [add_block];exact Nat.ne_of_lt (Nat.lt_of_lt_of_le (by have:=World.block_lt_of_cell? _ _ Ct;first|rwa [add_block] at this|exact this) BG.out))|(dsimp only;exact Nat.ne_of_lt (Nat.lt_of_lt_of_le (by have:=World.block_lt_of_cell? _ _ Ct;first|rwa [add_block] at this|exact this) BG.out))) _).trans (((cell_far (p:=⟨BF,_,none⟩) (by first|exact Nat.ne_of_lt (Nat.lt_of_lt_of_le (by have:=World.block_lt_of_cell? _ _ Ct;first|rwa [add_block] at this|exact this) BG.out)|(rw [add_block];exact Nat.ne_of_lt (Nat.lt_of_lt_of_le (by have:=World.block_lt_of_cell? _ _ Ct;first|rwa [add_block] at this|exact this) BG.out))|(show (Addr.add _ _).block ≠ _;rw [add_block];exact Nat.ne_of_lt (Nat.lt_of_lt_of_le (by have:=World.block_lt_of_cell? _ _ Ct;first|rwa [add_block] at this|exact this) BG.out))|(dsimp only;exact Nat.ne_of_lt (Nat.lt_of_lt_of_le (by have:=World.block_lt_of_cell? _ _ Ct;first|rwa [add_block] at this|exact this) BG.out))) _).trans (hHeld.2.2.2.2.2.2.2.2.2.2.2.2.1)))))))))))),((cell_far (p:=⟨BF,_,none⟩) (by first|exact Nat.ne_of_lt (Nat.lt_of_lt_of_le (by have:=World.block_lt_of_cell? _ _ Cr;first|rwa [add_block] at this|exact this) BG.out)|(rw [add_block];exact Nat.ne_of_lt (Nat.lt_of_lt_of_le (by have:=World.block_lt_of_cell? _ _ Cr;first|rwa [add_block] at this|exact this) BG.out))|(show (Addr.add _ _).block ≠ _;rw [add_block];exact Nat.ne_of_lt (Nat.lt_of_lt_of_le (by have:=World.block_lt_of_cell? _ _ Cr;first|rwa [add_block] at this|exact this) BG.out))|(dsimp only;exact Nat.ne_of_lt (Nat.lt_of_lt_of_le (by have:=World.block_lt_of_cell? _ _ Cr;first|rwa [add_block] at this|exact this) BG.out))) _).trans (((cell_far (p:=⟨BF,_,none⟩) (by first|exact Nat.ne_of_lt (Nat.lt_of_lt_of_le (by have:=World.block_lt_of_cell? _ _ Cr;first|rwa [add_block] at this|exact this) BG.out)|(rw [add_block];exact Nat.ne_of_lt (Nat.lt_of_lt_of_le (by have:=World.block_lt_of_cell? _ _ Cr;first|rwa [add_block] at this|exact this) BG.out))|(show (Addr.add _ _).block ≠ _;rw [add_block];exact Nat.ne_of_lt (Nat.lt_of_lt_of_le (by have:=World.block_lt_of_cell? _ _ Cr;first|rwa [add_block] at this|exact this) BG.out))|(dsimp only;exact Nat.ne_of_lt (Nat.lt_of_lt_of_le (by have:=World.block_lt_of_cell? _ _ Cr;first|rwa [add_block] at this|exact this) BG.out))) _).trans (((cell_far (p:=⟨BF,_,none⟩) (by first|exact Nat.ne_of_lt (Nat.lt_of_lt_of_le (by have:=World.block_lt_of_cell? _ _ Cr;first|rwa [add_block] at this|exact this) BG.out)|(rw [add_block];exact Nat.ne_of_lt (Nat.lt_of_lt_of_le (by have:=World.block_lt_of_cell? _ _ Cr;first|rwa [add_block] at this|exact this) BG.out))|(show (Addr.add _ _).block ≠ _;rw [add_block];exact Nat.ne_of_lt (Nat.lt_of_lt_of_le (by have:=World.block_lt_of_cell? _ _ Cr;first|rwa [add_block] at this|exact this) BG.out))|(dsimp only;exact Nat.ne_of_lt (Nat.lt_of_lt_of_le (by have:=World.block_lt_of_cell? _ _ Cr;first|rwa [add_block] at this|exact this) BG.out))) _).trans (((cell_far (p:=⟨BF,_,none⟩) (by first|exact Nat.ne_of_lt (Nat.lt_of_lt_of_le (by have:=World.block_lt_of_cell? _ _ Cr;first|rwa [add_block] at this|exact this) BG.out)|(rw [add_block];exact Nat.ne_of_lt (Nat.lt_of_lt_of_le (by have:=World.block_lt_of_cell? _ _ Cr;first|rwa [add_block] at this|exact this) BG.out))|(show (Addr.add _ _).block ≠ _;rw [add_block];exact Nat.ne_of_lt (Nat.lt_of_lt_of_le (by have:=World.block_lt_of_cell? _ _ Cr;first|rwa [add_block] at this|exact this) BG.out))|(dsimp only;exact Nat.ne_of_lt (Nat.lt_of_lt_of_le (by have:=World.block_lt_of_cell? _ _ Cr;first|rwa [add_block] at this|exact this) BG.out))) _).trans (((cell_far (p:=⟨BF,_,none⟩) (by first|exact Nat.ne_of_lt (Nat.lt_of_lt_of_le (by have:=World.block_lt_of_cell? _ _ Cr;first|rwa [add_block] at this|exact this) BG.out)|(rw [add_block];exact Nat.ne_of_lt (Nat.lt_of_lt_of_le (by have:=World.block_lt_of_cell? _ _ Cr;first|rwa [add_block] at this|exact this) BG.out))|(show (Addr.add _ _).block ≠ _;rw [add_block];exact Nat.ne_of_lt (Nat.lt_of_lt_of_le (by have:=World.block_lt_of_cell? _ _ Cr;first|rwa [add_block] at this|exact this) BG.out))|(dsimp only;exact Nat.ne_of_lt (Nat.lt_of_lt_of_le (by have:=World.block_lt_of_cell? _ _ Cr;first|rwa [add_block] at this|exact this) BG.out))) _).trans (((cell_far (p:=⟨BF,_,none⟩) (by first|exact Nat.ne_of_lt (Nat.lt_of_lt_of_le (by have:=World.block_lt_of_cell? _ _ Cr;first|rwa [add_block] at this|exact this) BG.out)|(rw [add_block];exact Nat.ne_of_lt (Nat.lt_of_lt_of_le (by have:=World.block_lt_of_cell? _ _ Cr;first|rwa [add_block] at this|exact this) BG.out))|(show (Addr.add _ _).block ≠ _;rw [add_block];exact Nat.ne_of_lt (Nat.lt_of_lt_of_le (by have:=World.block_lt_of_cell? _ _ Cr;first|rwa [add_block] at this|exact this) BG.out))|(dsimp only;exact Nat.ne_of_lt (Nat.lt_of_lt_of_le (by have:=World.block_lt_of_cell? _ _ Cr;first|rwa [add_block] at this|exact this) BG.out))) _).trans (hHeld.2.2.2.2.2.2.2.2.2.2.2.2.2.1)))))))))))),((cell_far (p:=⟨BF,_,none⟩) (by first|exact Nat.ne_of_lt (Nat.lt_of_lt_of_le (by have:=World.block_lt_of_cell? _ _ Cq;first|rwa [add_block] at this|exact this) BG.out)|(rw [add_block];exact Nat.ne_of_lt (Nat.lt_of_lt_of_le (by have:=World.block_lt_of_cell? _ _ Cq;first|rwa [add_block] at this|exact this) BG.out))|(show (Addr.add _ _).block ≠ _;rw [add_block];exact Nat.ne_of_lt (Nat.lt_of_lt_of_le (by have:=World.block_lt_of_cell? _ _ Cq;first|rwa [add_block] at this|exact this) BG.out))|(dsimp only;exact Nat.ne_of_lt (Nat.lt_of_lt_of_le (by have:=World.block_lt_of_cell? _ _ Cq;first|rwa [add_block] at this|exact this) BG.out))) _).trans (((cell_far (p:=⟨BF,_,none⟩) (by first|exact Nat.ne_of_lt (Nat.lt_of_lt_of_le (by have:=World.block_lt_of_cell? _ _ Cq;first|rwa [add_block] at this|exact this) BG.out)|(rw [add_block];exact Nat.ne_of_lt (Nat.lt_of_lt_of_le (by have:=World.block_lt_of_cell? _ _ Cq;first|rwa [add_block] at this|exact this) BG.out))|(show (Addr.add _ _).block ≠ _;rw [add_block];exact Nat.ne_of_lt (Nat.lt_of_lt_of_le (by have:=World.block_lt_of_cell? _ _ Cq;first|rwa [add_block] at this|exact this) BG.out))|(dsimp only;exact Nat.ne_of_lt (Nat.lt_of_lt_of_le (by have:=World.block_lt_of_cell? _ _ Cq;first|rwa [add_block] at this|exact this) BG.out))) _).trans (((cell_far (p:=⟨BF,_,none⟩) (by first|exact Nat.ne_of_lt (Nat.lt_of_lt_of_le (by have:=World.block_lt_of_cell? _ _ Cq;first|rwa [add_block] at this|exact this) BG.out)|(rw [add_block];exact Nat.ne_of_lt (Nat.lt_of_lt_of_le (by have:=World.block_lt_of_cell? _ _ Cq;first|rwa [add_block] at this|exact this) BG.out))|(show (Addr.add _ _).block ≠ _;rw [add_block];exact Nat.ne_of_lt (Nat.lt_of_lt_of_le (by have:=World.block_lt_of_cell? _ _ Cq;first|rwa [add_block] at this|exact this) BG.out))|(dsimp only;exact Nat.ne_of_lt (Nat.lt_of_lt_of_le (by have:=World.block_lt_of_cell? _ _ Cq;first|rwa [add_block] at this|exact this) BG.out))) _).trans (((cell_far (p:=⟨BF,_,none⟩) (by first|exact Nat.ne_of_lt (Nat.lt_of_lt_of_le (by have:=World.block_lt_of_cell? _ _ Cq;first|rwa [add_block] at this|exact this) BG.out)|(rw [add_block];exact Nat.ne_of_lt (Nat.lt_of_lt_of_le (by have:=World.block_lt_of_cell? _ _ Cq;first|rwa [add_block] at this|exact this) BG.out))|(show (Addr.add _ _).block ≠ _;rw [add_block];exact Nat.ne_of_lt (Nat.lt_of_lt_of_le (by have:=World.block_lt_of_cell? _ _ Cq;first|rwa [add_block] at this|exact this) BG.out))|(dsimp only;exact Nat.ne_of_lt (Nat.lt_of_lt_of_le (by have:=World.block_lt_of_cell? _ _ Cq;first|rwa [add_block] at this|exact this) BG.out))) _).trans (((cell_far (p:=⟨BF,_,none⟩) (by first|exact Nat.ne_of_lt (Nat.lt_of_lt_of_le (by have:=World.block_lt_of_cell? _ _ Cq;first|rwa [add_block] at this|exact this) BG.out)|(rw [add_block];exact Nat.ne_of_lt (Nat.lt_of_lt_of_le (by have:=World.block_lt_of_cell? _ _ Cq;first|rwa [add_block] at this|exact this) BG.out))|(show (Addr.add _ _).block ≠ _;rw [add_block];exact Nat.ne_of_lt (Nat.lt_of_lt_of_le (by have:=World.block_lt_of_cell? _ _ Cq;first|rwa [add_block] at this|exact this) BG.out))|(dsimp only;exact Nat.ne_of_lt (Nat.lt_of_lt_of_le (by have:=World.block_lt_of_cell? _ _ Cq;first|rwa [add_block] at this|exact this) BG.out))) _).trans (((cell_far (p:=⟨BF,_,none⟩) (by first|exact Nat.ne_of_lt (Nat.lt_of_lt_of_le (by have:=World.block_lt_of_cell? _ _ Cq;first|rwa [add_block] at this|exact this) BG.out)|(rw [add_block];exact Nat.ne_of_lt (Nat.lt_of_lt_of_le (by have:=World.block_lt_of_cell? _ _ Cq;first|rwa [add_block] at this|exact this) BG.out))|(show (Addr.add _ _).block ≠ _;rw [add_block];exact Nat.ne_of_lt (Nat.lt_of_lt_of_le (by have:=World.block_lt_of_cell? _ _ Cq;first|rwa [add_block] at this|exact this) BG.out))|(dsimp only;exact Nat.ne_of_lt (Nat.lt_of_lt_of_le (by have:=World.block_lt_of_cell? _ _ Cq;first|rwa [add_block] at this|exact this) BG.out))) _).trans (hHeld.2.2.2.2.2.2.2.2.2.2.2.2.2.2))))))))))))⟩ (fun hHeld=>?_)
          clear hK K
          refine iZ (gD HT_.out (by kernel_rfl)) ?_
          try go_wp2
          go_loopg [8] Jb (fun kq v8 w'=>∃ (Cg : Int) (Cb : Int) (Dc : List (S89)) (Cy : Value),v8 = .int .i64 Cg ∧ Aside0 (aI.l1 kq Bz Cg Ck Bw Ck CY ((aA Bw Bz).f1.f0) ((aA Bw Bz).f1.f1) ((aA Bw Bz).f1.f2) ((aA Bw Bz).f1.f3) ((aA Bw Bz).f1.f4) ((aA Bw Bz).f1.f5) ((aA Bw Bz).f0) ((aA Bw Bz).f1.f0) ((aA Bw Bz).f1.f1) ((((aA Bw Bz).f1.f2)) % 256) (IntKind.u16.wrap (((aA Bw Bz).f1.f3))) Dc = some (r1,r2,r3)) ∧ Aside0 (kq ≤ Jb) ∧ Aside0 (Kd.S k88 88 w' w.heap.size (fun k_=>some k_ ≠ (Cy : Value).ownBlock ∧ k_ ≠ BF) Ch CY) ∧ Aside0 (Kd.R k89 89 w' w.heap.size (fun _=>True) Cy Dc) ∧ Aside0 (w'.heap[Ci]? = some (.cells #[.int .u64 Ck,(.slice (some CJ) Bw.length Dn)] 47 (0,0))) ∧ Aside0 (w'.heap[Cc]? = some (.cells #[.int .u64 Cb,(.slice none 0 0)] 39 (0,0))) ∧ Aside0 (w'.heap[Cm]? = some (.cells #[.int .u64 Ck,Ch] 39 (0,0))) ∧ Aside0 (w'.heap[BH]? = some (.cells #[.string ((aA Bw Bz).f1.f0),.string ((aA Bw Bz).f1.f1),.int .i64 ((aA Bw Bz).f1.f2),.int .i64 ((aA Bw Bz).f1.f3),.bool ((aA Bw Bz).f1.f4),(.slice Dv ((aA Bw Bz).f1.f5).length Cn)] 94 (0,0))) ∧ Aside0 (w'.heap[BF]? = some (.cells #[.string ((aA Bw Bz).f0),.string ((aA Bw Bz).f1.f0),.string ((aA Bw Bz).f1.f1),.int .u8 ((((aA Bw Bz).f1.f2)) % 256),.int .u16 (IntKind.u16.wrap (((aA Bw Bz).f1.f3))),Cy] 88 (0,0))) ∧ Aside0 (Below w.heap.size w w'))
          case atStart=>exact ⟨(0),(CX),(([] : List (S89))),(.slice none 0 0),(by first|rfl|(simp;done)|(simp [*];done)),H',⟨Nat.le_refl _⟩,⟨by (with_reducible repeat (first|apply Kd.dw|apply Kd.dx|apply Kd.dN));exact Kd.fV (Kd.dB (p:=⟨BF,5,none⟩) (Kd.dB (p:=⟨BF,4,none⟩) (Kd.dB (p:=⟨BF,3,none⟩) (Kd.dB (p:=⟨BF,2,none⟩) (Kd.dB (p:=⟨BF,1,none⟩) (Kd.dB (p:=⟨BF,0,none⟩) (Kd.fV BL.out (fun k_ hk=>(⟨hk,hk.2⟩ : _ ∧ k_ ≠ BF))) (fun _ hk=>hk.2) (.string ((aA Bw Bz).f0))) (fun _ hk=>hk.2) (.string ((aA Bw Bz).f1.f0))) (fun _ hk=>hk.2) (.string ((aA Bw Bz).f1.f1))) (fun _ hk=>hk.2) (.int .u8 ((((aA Bw Bz).f1.f2)) % 256))) (fun _ hk=>hk.2) (.int .u16 (IntKind.u16.wrap (((aA Bw Bz).f1.f3))))) (fun _ hk=>hk.2) (.slice none 0 0)) (fun _ hk=>⟨(by simp [Value.ownBlock]),hk.1.2⟩)⟩,⟨by first|exact Kd.je _ _ _ _ _|exact Kd.jw _ _ _ _ _|exact Kd.kR _ _ _ _ _|exact Kd.lT _ _ _ _ _|exact Kd.lW _ _ _ _ _⟩,⟨by (with_reducible repeat (first|apply aj|apply ay|apply ak));refine aD ?_ Cj.out _;(with_reducible repeat (first|apply aj|apply ay|apply ak));refine aD ?_ Cj.out _;(with_reducible repeat (first|apply aj|apply ay|apply ak));refine aD ?_ Cj.out _;(with_reducible repeat (first|apply aj|apply ay|apply ak));refine aD ?_ Cj.out _;(with_reducible repeat (first|apply aj|apply ay|apply ak));refine aD ?_ Cj.out _;(with_reducible repeat (first|apply aj|apply ay|apply ak));refine aD ?_ Cj.out _;(with_reducible repeat (first|apply aj|apply ay|apply ak));exact BU.out⟩,⟨by (with_reducible repeat (first|apply aj|apply ay|apply ak));refine aD ?_ Co.out _;(with_reducible repeat (first|apply aj|apply ay|apply ak));refine aD ?_ Co.out _;(with_reducible repeat (first|apply aj|apply ay|apply ak));refine aD ?_ Co.out _;(with_reducible repeat (first|apply aj|apply ay|apply ak));refine aD ?_ Co.out _;(with_reducible repeat (first|apply aj|apply ay|apply ak));refine aD ?_ Co.out _;(with_reducible repeat (first|apply aj|apply ay|apply ak));refine aD ?_ Co.out _;(with_reducible repeat (first|apply aj|apply ay|apply ak));exact BN.out⟩,⟨by (with_reducible repeat (first|apply aj|apply ay|apply ak));refine aD ?_ CW.out _;(with_reducible repeat (first|apply aj|apply ay|apply ak));refine aD ?_ CW.out _;(with_reducible repeat (first|apply aj|apply ay|apply ak));refine aD ?_ CW.out _;(with_reducible repeat (first|apply aj|apply ay|apply ak));refine aD ?_ CW.out _;(with_reducible repeat (first|apply aj|apply ay|apply ak));refine aD ?_ CW.out _;(with_reducible repeat (first|apply aj|apply ay|apply ak));refine aD ?_ CW.out _;(with_reducible repeat (first|apply aj|apply ay|apply ak));exact BZ.out⟩,⟨by (with_reducible repeat (first|apply aj|apply ay|apply ak));refine aD ?_ BJ.out _;(with_reducible repeat (first|apply aj|apply ay|apply ak));refine aD ?_ BJ.out _;(with_reducible repeat (first|apply aj|apply ay|apply ak));refine aD ?_ BJ.out _;(with_reducible repeat (first|apply aj|apply ay|apply ak));refine aD ?_ BJ.out _;(with_reducible repeat (first|apply aj|apply ay|apply ak));refine aD ?_ BJ.out _;(with_reducible repeat (first|apply aj|apply ay|apply ak));refine aD ?_ BJ.out _;(with_reducible repeat (first|apply aj|apply ay|apply ak));exact BD.out⟩,⟨by (with_reducible repeat (first|apply aj|apply ay|apply ak));refine aQ (cs:=#[.string ((aA Bw Bz).f0),.string ((aA Bw Bz).f1.f0),.string ((aA Bw Bz).f1.f1),.int .u8 ((((aA Bw Bz).f1.f2)) % 256),.int .u16 (IntKind.u16.wrap (((aA Bw Bz).f1.f3))),.slice none 0 0]) ?_ 5 _ rfl;(with_reducible repeat (first|apply aj|apply ay|apply ak));refine aQ (cs:=#[.string ((aA Bw Bz).f0),.string ((aA Bw Bz).f1.f0),.string ((aA Bw Bz).f1.f1),.int .u8 ((((aA Bw Bz).f1.f2)) % 256),.int .u16 0,.slice none 0 0]) ?_ 4 _ rfl;(with_reducible repeat (first|apply aj|apply ay|apply ak));refine aQ (cs:=#[.string ((aA Bw Bz).f0),.string ((aA Bw Bz).f1.f0),.string ((aA Bw Bz).f1.f1),.int .u8 0,.int .u16 0,.slice none 0 0]) ?_ 3 _ rfl;(with_reducible repeat (first|apply aj|apply ay|apply ak));refine aQ (cs:=#[.string ((aA Bw Bz).f0),.string ((aA Bw Bz).f1.f0),.string (⟨#[]⟩ : ByteArray),.int .u8 0,.int .u16 0,.slice none 0 0]) ?_ 2 _ rfl;(with_reducible repeat (first|apply aj|apply ay|apply ak));refine aQ (cs:=#[.string ((aA Bw Bz).f0),.string (⟨#[]⟩ : ByteArray),.string (⟨#[]⟩ : ByteArray),.int .u8 0,.int .u16 0,.slice none 0 0]) ?_ 1 _ rfl;(with_reducible repeat (first|apply aj|apply ay|apply ak));refine aQ (cs:=#[.string (⟨#[]⟩ : ByteArray),.string (⟨#[]⟩ : ByteArray),.string (⟨#[]⟩ : ByteArray),.int .u8 0,.int .u16 0,.slice none 0 0]) ?_ 0 _ rfl;(with_reducible repeat (first|apply aj|apply ay|apply ak));exact BS.out⟩,⟨hb_⟩⟩
          case round =>
           clear H'
           try clear c1
           try clear c2
           try clear p2
           try clear q2
           try clear hx2
           try clear c3
           try clear c4
           try clear c5
           try clear c7
           try clear c8
           try clear c10
           try clear c10b0
           try clear c11
           try clear c11b0
           try clear c13
           try clear c14
           try clear c17
           try clear c18
           try clear c19
           try clear c21
           try clear c21b0
           try clear VO
           try clear c23
           try clear Uk
           try clear Ul
           try clear Qt
           try clear c24
           try clear IW
           try clear c26b0
           try clear VP
           try clear c28
           try clear VQ
           try clear c31
           try clear c31b0
           try clear c32
           try clear VR
           try clear c34
           try clear IX
           try clear c36b0
           try clear c37
           try clear VT
           try clear VU
           try clear VW
           try clear VX
           try clear VY
           try clear Jm
           try clear c46
           try clear Wh
           try clear Wi
           try clear Jo
           try clear c50b0
           try clear c51
           try clear c51b0
           try clear FP
           try clear FQ
           try clear FW
           try clear FX
           try clear FY
           try clear FZ
           try clear F3
           try clear F4
           try clear Gb
           try clear Gc
           try clear Gd
           try clear Gf
           try clear Gg
           try clear Gh
           try clear Gq
           try clear Gr
           try clear Gs
           try clear Gt
           try clear Gu
           try clear Gv
           try clear GI
           try clear GJ
           try clear GK
           try clear GL
           try clear GN
           try clear GQ
           try clear G6
           try clear G7
           try clear G8
           try clear G9
           try clear He
           try clear Hf
           try clear Hu
           try clear Hw
           try clear Hy
           try clear Hz
           try clear HY
           try clear H6
           try clear Iw
           try clear Iy
           try clear Fv
           try clear Fw
           try clear Fz
           try clear FB
           try clear FR
           try clear FT
           try clear F5
           try clear F6
           try clear F7
           try clear F8
           try clear F9
           try clear Ga
           try clear Gi
           try clear Gj
           try clear Gl
           try clear Gm
           try clear Gn
           try clear Gp
           try clear Gw
           try clear Gx
           try clear Gy
           try clear Gz
           try clear GA
           try clear GD
           try clear GR
           try clear GU
           try clear GV
           try clear GX
           try clear GY
           try clear GZ
           try clear Hg
           try clear Hl
           try clear Ho
           try clear Hq
           try clear Hr
           try clear Ht
           try clear H7
           try clear H8
           try clear H9
           try clear Ia
           try clear Ib
           try clear Ic
           try clear Iz
           try clear IB
           try clear Fx
           try clear Fy
           try clear FC
           try clear FD
           try clear EF
           try clear EG
           try clear EH
           try clear EI
           try clear EJ
           try clear EK
           try clear EL
           try clear Et
           try clear Eu
           try clear Ew
           try clear Ey
           try clear Ez
           try clear EA
           try clear EB
           try clear p2
           try clear Uk
           try clear Ik
           try clear IC
           try clear q2
           try clear Ul
           try clear Il
           try clear IE
           obtain ⟨Cg,Cb,Dc,Cy,rfl,HA,OU,BL,Ce,BU,BN,BZ,BD,BS,HB⟩:=hrel
           cases gk with
           | zero=>exact absurd HA.out (by simp [aI.l1])
           | succ k3 =>
            have H:=HA.out
            clear HA
            simp only [aI.l1] at H
            by_cases Ji : Cg < (((aA Bw Bz).f1.f5).length : Int)
            ·rw [if_pos Ji] at H
             have c60b0 : decide (Cg < (((aA Bw Bz).f1.f5).length : Int)) = true:=decide_eq_true Ji
             clear Ji
             by_cases OV : 0 ≤ Cg
             ·rw [if_pos OV] at H
              have c61b0 : decide (0 ≤ Cg) = true:=decide_eq_true OV
              clear OV
              by_cases Jj : (((bE ((aA Bw Bz).f1.f5) Cg).f2).length : Int) > 0
              ·rw [if_pos Jj] at H
               have c62b0 : decide (0 < (((bE ((aA Bw Bz).f1.f5) Cg).f2).length : Int)) = true:=decide_eq_true Jj
               have c62b1 : decide (0 < ((bE ((aA Bw Bz).f1.f5) Cg).f2).length) = true:=decide_eq_true (by omega)
               clear Jj
               simp only [Option.some.injEq,Prod.mk.injEq] at H
               obtain ⟨rfl,rfl,rfl⟩:=H
               have UA:=C8.out
               have UC:=BP.out
               have UD:=CZ.out
               have UE:=BO.out
               have UF:=C9.out
               have UG:=BQ.out
               have UH:=BJ.out
               have UJ:=Db.out
               have OW : wr.cell? ⟨BH,0,none⟩ = some (.string ((aA Bw Bz).f1.f0)):=(ah BD.out 0).trans rfl
               have OX : wr.cell? ⟨BH,1,none⟩ = some (.string ((aA Bw Bz).f1.f1)):=(ah BD.out 1).trans rfl
               have OY : wr.cell? ⟨BH,2,none⟩ = some (.int .i64 ((aA Bw Bz).f1.f2)):=(ah BD.out 2).trans rfl
               have OZ : wr.cell? ⟨BH,3,none⟩ = some (.int .i64 ((aA Bw Bz).f1.f3)):=(ah BD.out 3).trans rfl
               have O1 : wr.cell? ⟨BH,4,none⟩ = some (.bool ((aA Bw Bz).f1.f4)):=(ah BD.out 4).trans rfl
               have O6 : wr.cell? ⟨BH,5,none⟩ = some (.slice Dv ((aA Bw Bz).f1.f5).length Cn):=(ah BD.out 5).trans rfl
               have O7:=av BD.out 0
               have O8:=av BD.out 1
               have O9:=av BD.out 2
               have Pb:=av BD.out 3
               have Pf:=av BD.out 4
               have Pg:=av BD.out 5
               have DZ : 0 ≤ (Cg : Int):=of_decide_eq_true (by first|(with_reducible assumption)|assumption)
               have D5 : Cg < (((aA Bw Bz).f1.f5).length : Int):=of_decide_eq_true (by first|(with_reducible assumption)|assumption)
               obtain ⟨Dw,DT,DU,D6,D7,Ej,El,E8,CK,CO,CP,CQ,CS,CU,CV,Dh,Di,Dj,Dk,Dl,Dm⟩:=lK Es.out Cg DZ D5
               cases E8
               replace CK:=(HB.out.cell (World.block_lt_of_cell? w _ CK)).trans CK
               replace CO:=(HB.out.cell (World.block_lt_of_cell? w _ CO)).trans CO
               replace CP:=(HB.out.cell (World.block_lt_of_cell? w _ CP)).trans CP
               replace CQ:=(HB.out.cell (World.block_lt_of_cell? w _ CQ)).trans CQ
               replace CS:=(HB.out.cell (World.block_lt_of_cell? w _ CS)).trans CS
               replace CU:=(HB.out.cell (World.block_lt_of_cell? w _ CU)).trans CU
               replace CV:=(HB.out.cell (World.block_lt_of_cell? w _ CV)).trans CV
               have EM:=Aside0.mk Di
               have EN:=Aside0.mk Dh
               clear Di Dh
               have EO:=Aside0.mk Dk
               have EP:=Aside0.mk Dj
               clear Dk Dj
               have ER:=Aside0.mk Dm
               have ES:=Aside0.mk Dl
               clear Dm Dl
               replace DZ:=eq_true DZ
               replace D5:=eq_true D5
               go_wp2_with (first|((with_reducible refine bN (N:=9) rfl ?_);(try (refine eX (by rfl) ?_;dsimp only));refine bT ?hg (N:=9) ?hd (cs:=#[.string (⟨#[]⟩ : ByteArray),.string (⟨#[]⟩ : ByteArray),.slice none 0 0,.slice none 0 0,.int .i64 0,.int .i64 0,.slice none 0 0]) (t:=106) ?hr ?_;(case hd=>rfl);(case hg=>rfl);(case hr=>first|(go_simp;done)|(go_simp;rfl));intro BI hg II hbox hb;have D8:=Aside0.mk (Kd.fB (by (with_reducible repeat (first|apply Kd.dw|apply Kd.dx|apply Kd.dN));exact BL.out) hb);have D9:=Aside0.mk (Kd.iE (kr_ Ce.out) hb);have Ea:=Aside0.mk (aJ (g:=Ci) (o:=.cells #[.int .u64 Ck,.slice (some CJ) Bw.length Dn] 47 (0,0)) (bk_ BU.out) hb);have Eb:=Aside0.mk (aJ (g:=Cc) (o:=.cells #[.int .u64 Cb,.slice none 0 0] 39 (0,0)) (bk_ BN.out) hb);have Ef:=Aside0.mk (aJ (g:=Cm) (o:=.cells #[.int .u64 Ck,Ch] 39 (0,0)) (bk_ BZ.out) hb);have Eh:=Aside0.mk (aJ (g:=BH) (o:=.cells #[.string ((aA Bw Bz).f1.f0),.string ((aA Bw Bz).f1.f1),.int .i64 ((aA Bw Bz).f1.f2),.int .i64 ((aA Bw Bz).f1.f3),.bool ((aA Bw Bz).f1.f4),.slice (some Dw) ((aA Bw Bz).f1.f5).length Cn] 94 (0,0)) (bk_ BD.out) hb);have Ei:=Aside0.mk (aJ (g:=BF) (o:=.cells #[.string ((aA Bw Bz).f0),.string ((aA Bw Bz).f1.f0),.string ((aA Bw Bz).f1.f1),.int .u8 ((((aA Bw Bz).f1.f2)) % 256),.int .u16 (IntKind.u16.wrap (((aA Bw Bz).f1.f3))),Cy] 88 (0,0)) (bk_ BS.out) hb);have EC:=Aside0.mk (aN hb_ hb);have ED:=Aside0.mk (hbox);have EW:=Aside0.mk ((by rw [hg];exact (aR hb_) : w.heap.size ≤ BI));have DV:=Aside0.mk ((by rw [hg];exact (aR hb_) : w.heap.size ≤ BI));have DW:=Aside0.mk ((by rw [hg];exact Nat.ne_of_lt (aW (g:=Ci) (o:=.cells #[.int .u64 Ck,.slice (some CJ) Bw.length Dn] 47 (0,0)) (bk_ BU.out)) : Ci ≠ BI));have DX:=Aside0.mk ((by rw [hg];exact Nat.ne_of_gt (aW (g:=Ci) (o:=.cells #[.int .u64 Ck,.slice (some CJ) Bw.length Dn] 47 (0,0)) (bk_ BU.out)) : BI ≠ Ci));have DY:=Aside0.mk ((by rw [hg];exact Nat.ne_of_lt (aW (g:=Cc) (o:=.cells #[.int .u64 Cb,.slice none 0 0] 39 (0,0)) (bk_ BN.out)) : Cc ≠ BI));have Ec:=Aside0.mk ((by rw [hg];exact Nat.ne_of_gt (aW (g:=Cc) (o:=.cells #[.int .u64 Cb,.slice none 0 0] 39 (0,0)) (bk_ BN.out)) : BI ≠ Cc));have Ed:=Aside0.mk ((by rw [hg];exact Nat.ne_of_lt (aW (g:=Cm) (o:=.cells #[.int .u64 Ck,Ch] 39 (0,0)) (bk_ BZ.out)) : Cm ≠ BI));have Ee:=Aside0.mk ((by rw [hg];exact Nat.ne_of_gt (aW (g:=Cm) (o:=.cells #[.int .u64 Ck,Ch] 39 (0,0)) (bk_ BZ.out)) : BI ≠ Cm));have Em:=Aside0.mk ((by rw [hg];exact Nat.ne_of_lt (aW (g:=BH) (o:=.cells #[.string ((aA Bw Bz).f1.f0),.string ((aA Bw Bz).f1.f1),.int .i64 ((aA Bw Bz).f1.f2),.int .i64 ((aA Bw Bz).f1.f3),.bool ((aA Bw Bz).f1.f4),.slice (some Dw) ((aA Bw Bz).f1.f5).length Cn] 94 (0,0)) (bk_ BD.out)) : BH ≠ BI));have En:=Aside0.mk ((by rw [hg];exact Nat.ne_of_gt (aW (g:=BH) (o:=.cells #[.string ((aA Bw Bz).f1.f0),.string ((aA Bw Bz).f1.f1),.int .i64 ((aA Bw Bz).f1.f2),.int .i64 ((aA Bw Bz).f1.f3),.bool ((aA Bw Bz).f1.f4),.slice (some Dw) ((aA Bw Bz).f1.f5).length Cn] 94 (0,0)) (bk_ BD.out)) : BI ≠ BH));have Eo:=Aside0.mk ((by rw [hg];exact Nat.ne_of_lt (aW (g:=BF) (o:=.cells #[.string ((aA Bw Bz).f0),.string ((aA Bw Bz).f1.f0),.string ((aA Bw Bz).f1.f1),.int .u8 ((((aA Bw Bz).f1.f2)) % 256),.int .u16 (IntKind.u16.wrap (((aA Bw Bz).f1.f3))),Cy] 88 (0,0)) (bk_ BS.out)) : BF ≠ BI));have Ep:=Aside0.mk ((by rw [hg];exact Nat.ne_of_gt (aW (g:=BF) (o:=.cells #[.string ((aA Bw Bz).f0),.string ((aA Bw Bz).f1.f0),.string ((aA Bw Bz).f1.f1),.int .u8 ((((aA Bw Bz).f1.f2)) % 256),.int .u16 (IntKind.u16.wrap (((aA Bw Bz).f1.f3))),Cy] 88 (0,0)) (bk_ BS.out)) : BI ≠ BF));clear BL;clear Ce;clear BU;clear BN;clear BZ;clear BD;clear BS;clear HB;have BL:=D8;have Ce:=D9;have BU:=Ea;have BN:=Eb;have BZ:=Ef;have BD:=Eh;have BS:=Ei;have HB:=EC;have BR:=ED;have Fj:=EW;have Fp:=DV;have Cz:=DW;have Dp:=DX;have BK:=DY;have Dq:=Ec;have CB:=Ed;have Dr:=Ee;have CF:=Em;have Dt:=En;have CG:=Eo;have Du:=Ep;clear D8 D9 Ea Eb Ef Eh Ei EC ED EW DV DW DX DY Ec Ed Ee Em En Eo Ep;clear hb hbox hg;have UK:=Dp.out;have UL:=Cz.out;have UM:=Dq.out;have UN:=BK.out;have UO:=Dr.out;have UQ:=CB.out;have UR:=Dt.out;have UU:=CF.out;have UW:=Du.out;have UY:=CG.out;have Ph : II.cell? ⟨BI,0,none⟩ = some (.string (⟨#[]⟩ : ByteArray)):=(ah BR.out 0).trans rfl;have Pj : II.cell? ⟨BI,1,none⟩ = some (.string (⟨#[]⟩ : ByteArray)):=(ah BR.out 1).trans rfl;have Pk : II.cell? ⟨BI,2,none⟩ = some (.slice none 0 0):=(ah BR.out 2).trans rfl;have Pm : II.cell? ⟨BI,3,none⟩ = some (.slice none 0 0):=(ah BR.out 3).trans rfl;have Pn : II.cell? ⟨BI,4,none⟩ = some (.int .i64 0):=(ah BR.out 4).trans rfl;have Po : II.cell? ⟨BI,5,none⟩ = some (.int .i64 0):=(ah BR.out 5).trans rfl;have Pp : II.cell? ⟨BI,6,none⟩ = some (.slice none 0 0):=(ah BR.out 6).trans rfl;have Pq:=av BR.out 0;have Pt:=av BR.out 1;have Pv:=av BR.out 2;have Pw:=av BR.out 3;have Px:=av BR.out 4;have Py:=av BR.out 5;have Pz:=av BR.out 6;have UZ:=Dy.out;have U0:=Dx.out;have U1:=Df.out;have U2:=Dz.out;have U3:=Co.out;have U4:=Da.out;have PD : II.cell? ⟨Cc,0,none⟩ = some (.int .u64 Cb):=(ah BN.out 0).trans rfl;have PE : II.cell? ⟨Cc,1,none⟩ = some (.slice none 0 0):=(ah BN.out 1).trans rfl;have PG:=av BN.out 0;have PI:=av BN.out 1))
               refine bodyPost_ret (iy rfl _ _ Cc 39 #[.int .u64 0,.slice none 0 0] (0,0) _ rfl (by (with_reducible repeat (first|apply aj|apply ay|apply ak));refine aQ (cs:=#[.int .u64 0,.slice none 0 0]) ?_ 1 _ rfl;(with_reducible repeat (first|apply aj|apply ay|apply ak));refine aQ (cs:=#[.int .u64 Cb,.slice none 0 0]) ?_ 0 _ rfl;(with_reducible repeat (first|apply aj|apply ay|apply ak));refine aD ?_ BK.out _;(with_reducible repeat (first|apply aj|apply ay|apply ak));refine aD ?_ BK.out _;(with_reducible repeat (first|apply aj|apply ay|apply ak));refine aD ?_ BK.out _;(with_reducible repeat (first|apply aj|apply ay|apply ak));refine aD ?_ BK.out _;(with_reducible repeat (first|apply aj|apply ay|apply ak));refine aD ?_ BK.out _;(with_reducible repeat (first|apply aj|apply ay|apply ak));refine aD ?_ BK.out _;(with_reducible repeat (first|apply aj|apply ay|apply ak));refine aD ?_ BK.out _;(with_reducible repeat (first|apply aj|apply ay|apply ak));exact BN.out) Tryz.underlying39 rfl (by kernel_rfl)) rfl ?_
               exact ⟨_,by first|rfl|(simp [bg,bA] <;> rfl)|(simp [*,bg,bA] <;> rfl),by first|exact Kd.lW _ _ _ _ _|exact Kd.jw _ _ _ _ _|exact Kd.kR _ _ _ _ _|exact Kd.lT _ _ _ _ _|exact Kd.je _ _ _ _ _,hb_⟩
              ·rw [if_neg Jj] at H
               have c62b0 : decide (0 < (((bE ((aA Bw Bz).f1.f5) Cg).f2).length : Int)) = false:=decide_eq_false Jj
               have c62b1 : decide (0 < ((bE ((aA Bw Bz).f1.f5) Cg).f2).length) = false:=decide_eq_false (by omega)
               clear Jj
               by_cases Jk : (((bE ((aA Bw Bz).f1.f5) Cg).f3).length : Int) > 0
               ·rw [if_pos Jk] at H
                have c79b0 : decide (0 < (((bE ((aA Bw Bz).f1.f5) Cg).f3).length : Int)) = true:=decide_eq_true Jk
                have c79b1 : decide (0 < ((bE ((aA Bw Bz).f1.f5) Cg).f3).length) = true:=decide_eq_true (by omega)
                clear Jk
                simp only [Option.some.injEq,Prod.mk.injEq] at H
                obtain ⟨rfl,rfl,rfl⟩:=H
                have U5:=C8.out
                have U6:=BP.out
                have U7:=CZ.out
                have U8:=BO.out
                have U9:=C9.out
                have Va:=BQ.out
                have Vb:=BJ.out
                have Vd:=Db.out
                have PK : wr.cell? ⟨BH,0,none⟩ = some (.string ((aA Bw Bz).f1.f0)):=(ah BD.out 0).trans rfl
                have PL : wr.cell? ⟨BH,1,none⟩ = some (.string ((aA Bw Bz).f1.f1)):=(ah BD.out 1).trans rfl
                have PN : wr.cell? ⟨BH,2,none⟩ = some (.int .i64 ((aA Bw Bz).f1.f2)):=(ah BD.out 2).trans rfl
                have PO : wr.cell? ⟨BH,3,none⟩ = some (.int .i64 ((aA Bw Bz).f1.f3)):=(ah BD.out 3).trans rfl
                have PS : wr.cell? ⟨BH,4,none⟩ = some (.bool ((aA Bw Bz).f1.f4)):=(ah BD.out 4).trans rfl
                have PU : wr.cell? ⟨BH,5,none⟩ = some (.slice Dv ((aA Bw Bz).f1.f5).length Cn):=(ah BD.out 5).trans rfl
                have PV:=av BD.out 0
                have PW:=av BD.out 1
                have PX:=av BD.out 2
                have PY:=av BD.out 3
                have PZ:=av BD.out 4
                have P5:=av BD.out 5
                have DZ : 0 ≤ (Cg : Int):=of_decide_eq_true (by first|(with_reducible assumption)|assumption)
                have D5 : Cg < (((aA Bw Bz).f1.f5).length : Int):=of_decide_eq_true (by first|(with_reducible assumption)|assumption)
                obtain ⟨Dw,DT,DU,D6,D7,Ej,El,E8,CK,CO,CP,CQ,CS,CU,CV,Dh,Di,Dj,Dk,Dl,Dm⟩:=lK Es.out Cg DZ D5
                cases E8
                replace CK:=(HB.out.cell (World.block_lt_of_cell? w _ CK)).trans CK
                replace CO:=(HB.out.cell (World.block_lt_of_cell? w _ CO)).trans CO
                replace CP:=(HB.out.cell (World.block_lt_of_cell? w _ CP)).trans CP
                replace CQ:=(HB.out.cell (World.block_lt_of_cell? w _ CQ)).trans CQ
                replace CS:=(HB.out.cell (World.block_lt_of_cell? w _ CS)).trans CS
                replace CU:=(HB.out.cell (World.block_lt_of_cell? w _ CU)).trans CU
                replace CV:=(HB.out.cell (World.block_lt_of_cell? w _ CV)).trans CV
                have EM:=Aside0.mk Di
                have EN:=Aside0.mk Dh
                clear Di Dh
                have EO:=Aside0.mk Dk
                have EP:=Aside0.mk Dj
                clear Dk Dj
                have ER:=Aside0.mk Dm
                have ES:=Aside0.mk Dl
                clear Dm Dl
                replace DZ:=eq_true DZ
                replace D5:=eq_true D5
                go_wp2_with (first|((with_reducible refine bN (N:=9) rfl ?_);(try (refine eX (by rfl) ?_;dsimp only));refine bT ?hg (N:=9) ?hd (cs:=#[.string (⟨#[]⟩ : ByteArray),.string (⟨#[]⟩ : ByteArray),.slice none 0 0,.slice none 0 0,.int .i64 0,.int .i64 0,.slice none 0 0]) (t:=106) ?hr ?_;(case hd=>rfl);(case hg=>rfl);(case hr=>first|(go_simp;done)|(go_simp;rfl));intro BI hg IJ hbox hb;have D8:=Aside0.mk (Kd.fB (by (with_reducible repeat (first|apply Kd.dw|apply Kd.dx|apply Kd.dN));exact BL.out) hb);have D9:=Aside0.mk (Kd.iE (kr_ Ce.out) hb);have Ea:=Aside0.mk (aJ (g:=Ci) (o:=.cells #[.int .u64 Ck,.slice (some CJ) Bw.length Dn] 47 (0,0)) (bk_ BU.out) hb);have Eb:=Aside0.mk (aJ (g:=Cc) (o:=.cells #[.int .u64 Cb,.slice none 0 0] 39 (0,0)) (bk_ BN.out) hb);have Ef:=Aside0.mk (aJ (g:=Cm) (o:=.cells #[.int .u64 Ck,Ch] 39 (0,0)) (bk_ BZ.out) hb);have Eh:=Aside0.mk (aJ (g:=BH) (o:=.cells #[.string ((aA Bw Bz).f1.f0),.string ((aA Bw Bz).f1.f1),.int .i64 ((aA Bw Bz).f1.f2),.int .i64 ((aA Bw Bz).f1.f3),.bool ((aA Bw Bz).f1.f4),.slice (some Dw) ((aA Bw Bz).f1.f5).length Cn] 94 (0,0)) (bk_ BD.out) hb);have Ei:=Aside0.mk (aJ (g:=BF) (o:=.cells #[.string ((aA Bw Bz).f0),.string ((aA Bw Bz).f1.f0),.string ((aA Bw Bz).f1.f1),.int .u8 ((((aA Bw Bz).f1.f2)) % 256),.int .u16 (IntKind.u16.wrap (((aA Bw Bz).f1.f3))),Cy] 88 (0,0)) (bk_ BS.out) hb);have EC:=Aside0.mk (aN hb_ hb);have ED:=Aside0.mk (hbox);have EW:=Aside0.mk ((by rw [hg];exact (aR hb_) : w.heap.size ≤ BI));have DV:=Aside0.mk ((by rw [hg];exact (aR hb_) : w.heap.size ≤ BI));have DW:=Aside0.mk ((by rw [hg];exact Nat.ne_of_lt (aW (g:=Ci) (o:=.cells #[.int .u64 Ck,.slice (some CJ) Bw.length Dn] 47 (0,0)) (bk_ BU.out)) : Ci ≠ BI));have DX:=Aside0.mk ((by rw [hg];exact Nat.ne_of_gt (aW (g:=Ci) (o:=.cells #[.int .u64 Ck,.slice (some CJ) Bw.length Dn] 47 (0,0)) (bk_ BU.out)) : BI ≠ Ci));have DY:=Aside0.mk ((by rw [hg];exact Nat.ne_of_lt (aW (g:=Cc) (o:=.cells #[.int .u64 Cb,.slice none 0 0] 39 (0,0)) (bk_ BN.out)) : Cc ≠ BI));have Ec:=Aside0.mk ((by rw [hg];exact Nat.ne_of_gt (aW (g:=Cc) (o:=.cells #[.int .u64 Cb,.slice none 0 0] 39 (0,0)) (bk_ BN.out)) : BI ≠ Cc));have Ed:=Aside0.mk ((by rw [hg];exact Nat.ne_of_lt (aW (g:=Cm) (o:=.cells #[.int .u64 Ck,Ch] 39 (0,0)) (bk_ BZ.out)) : Cm ≠ BI));have Ee:=Aside0.mk ((by rw [hg];exact Nat.ne_of_gt (aW (g:=Cm) (o:=.cells #[.int .u64 Ck,Ch] 39 (0,0)) (bk_ BZ.out)) : BI ≠ Cm));have Em:=Aside0.mk ((by rw [hg];exact Nat.ne_of_lt (aW (g:=BH) (o:=.cells #[.string ((aA Bw Bz).f1.f0),.string ((aA Bw Bz).f1.f1),.int .i64 ((aA Bw Bz).f1.f2),.int .i64 ((aA Bw Bz).f1.f3),.bool ((aA Bw Bz).f1.f4),.slice (some Dw) ((aA Bw Bz).f1.f5).length Cn] 94 (0,0)) (bk_ BD.out)) : BH ≠ BI));have En:=Aside0.mk ((by rw [hg];exact Nat.ne_of_gt (aW (g:=BH) (o:=.cells #[.string ((aA Bw Bz).f1.f0),.string ((aA Bw Bz).f1.f1),.int .i64 ((aA Bw Bz).f1.f2),.int .i64 ((aA Bw Bz).f1.f3),.bool ((aA Bw Bz).f1.f4),.slice (some Dw) ((aA Bw Bz).f1.f5).length Cn] 94 (0,0)) (bk_ BD.out)) : BI ≠ BH));have Eo:=Aside0.mk ((by rw [hg];exact Nat.ne_of_lt (aW (g:=BF) (o:=.cells #[.string ((aA Bw Bz).f0),.string ((aA Bw Bz).f1.f0),.string ((aA Bw Bz).f1.f1),.int .u8 ((((aA Bw Bz).f1.f2)) % 256),.int .u16 (IntKind.u16.wrap (((aA Bw Bz).f1.f3))),Cy] 88 (0,0)) (bk_ BS.out)) : BF ≠ BI));have Ep:=Aside0.mk ((by rw [hg];exact Nat.ne_of_gt (aW (g:=BF) (o:=.cells #[.string ((aA Bw Bz).f0),.string ((aA Bw Bz).f1.f0),.string ((aA Bw Bz).f1.f1),.int .u8 ((((aA Bw Bz).f1.f2)) % 256),.int .u16 (IntKind.u16.wrap (((aA Bw Bz).f1.f3))),Cy] 88 (0,0)) (bk_ BS.out)) : BI ≠ BF));clear BL;clear Ce;clear BU;clear BN;clear BZ;clear BD;clear BS;clear HB;have BL:=D8;have Ce:=D9;have BU:=Ea;have BN:=Eb;have BZ:=Ef;have BD:=Eh;have BS:=Ei;have HB:=EC;have BR:=ED;have Fj:=EW;have Fp:=DV;have Cz:=DW;have Dp:=DX;have BK:=DY;have Dq:=Ec;have CB:=Ed;have Dr:=Ee;have CF:=Em;have Dt:=En;have CG:=Eo;have Du:=Ep;clear D8 D9 Ea Eb Ef Eh Ei EC ED EW DV DW DX DY Ec Ed Ee Em En Eo Ep;clear hb hbox hg;have Ve:=Dp.out;have Vf:=Cz.out;have Vg:=Dq.out;have Vh:=BK.out;have Vi:=Dr.out;have Vj:=CB.out;have Vk:=Dt.out;have Vl:=CF.out;have Vm:=Du.out;have Vn:=CG.out;have P6 : IJ.cell? ⟨BI,0,none⟩ = some (.string (⟨#[]⟩ : ByteArray)):=(ah BR.out 0).trans rfl;have P7 : IJ.cell? ⟨BI,1,none⟩ = some (.string (⟨#[]⟩ : ByteArray)):=(ah BR.out 1).trans rfl;have P8 : IJ.cell? ⟨BI,2,none⟩ = some (.slice none 0 0):=(ah BR.out 2).trans rfl;have P9 : IJ.cell? ⟨BI,3,none⟩ = some (.slice none 0 0):=(ah BR.out 3).trans rfl;have Qa : IJ.cell? ⟨BI,4,none⟩ = some (.int .i64 0):=(ah BR.out 4).trans rfl;have Qb : IJ.cell? ⟨BI,5,none⟩ = some (.int .i64 0):=(ah BR.out 5).trans rfl;have Qc : IJ.cell? ⟨BI,6,none⟩ = some (.slice none 0 0):=(ah BR.out 6).trans rfl;have Qd:=av BR.out 0;have Qe:=av BR.out 1;have Qf:=av BR.out 2;have Qg:=av BR.out 3;have Qh:=av BR.out 4;have Qi:=av BR.out 5;have Qj:=av BR.out 6;have Vo:=Dy.out;have Vp:=Dx.out;have Vq:=Df.out;have Vr:=Dz.out;have Vs:=Co.out;have Vt:=Da.out;have Qk : IJ.cell? ⟨Cc,0,none⟩ = some (.int .u64 Cb):=(ah BN.out 0).trans rfl;have Ql : IJ.cell? ⟨Cc,1,none⟩ = some (.slice none 0 0):=(ah BN.out 1).trans rfl;have Qm:=av BN.out 0;have Qn:=av BN.out 1))
                refine bodyPost_ret (iy rfl _ _ Cc 39 #[.int .u64 0,.slice none 0 0] (0,0) _ rfl (by (with_reducible repeat (first|apply aj|apply ay|apply ak));refine aQ (cs:=#[.int .u64 0,.slice none 0 0]) ?_ 1 _ rfl;(with_reducible repeat (first|apply aj|apply ay|apply ak));refine aQ (cs:=#[.int .u64 Cb,.slice none 0 0]) ?_ 0 _ rfl;(with_reducible repeat (first|apply aj|apply ay|apply ak));refine aD ?_ BK.out _;(with_reducible repeat (first|apply aj|apply ay|apply ak));refine aD ?_ BK.out _;(with_reducible repeat (first|apply aj|apply ay|apply ak));refine aD ?_ BK.out _;(with_reducible repeat (first|apply aj|apply ay|apply ak));refine aD ?_ BK.out _;(with_reducible repeat (first|apply aj|apply ay|apply ak));refine aD ?_ BK.out _;(with_reducible repeat (first|apply aj|apply ay|apply ak));refine aD ?_ BK.out _;(with_reducible repeat (first|apply aj|apply ay|apply ak));refine aD ?_ BK.out _;(with_reducible repeat (first|apply aj|apply ay|apply ak));exact BN.out) Tryz.underlying39 rfl (by kernel_rfl)) rfl ?_
                exact ⟨_,by first|rfl|(simp [bg,bA] <;> rfl)|(simp [*,bg,bA] <;> rfl),by first|exact Kd.lW _ _ _ _ _|exact Kd.jw _ _ _ _ _|exact Kd.kR _ _ _ _ _|exact Kd.lT _ _ _ _ _|exact Kd.je _ _ _ _ _,hb_⟩
               ·rw [if_neg Jk] at H
                have c79b0 : decide (0 < (((bE ((aA Bw Bz).f1.f5) Cg).f3).length : Int)) = false:=decide_eq_false Jk
                have c79b1 : decide (0 < ((bE ((aA Bw Bz).f1.f5) Cg).f3).length) = false:=decide_eq_false (by omega)
                clear Jk
                by_cases Jl : (((bE ((aA Bw Bz).f1.f5) Cg).f6).length : Int) > 0
                ·rw [if_pos Jl] at H
                 have c96b0 : decide (0 < (((bE ((aA Bw Bz).f1.f5) Cg).f6).length : Int)) = true:=decide_eq_true Jl
                 have c96b1 : decide (0 < ((bE ((aA Bw Bz).f1.f5) Cg).f6).length) = true:=decide_eq_true (by omega)
                 clear Jl
                 simp only [Option.some.injEq,Prod.mk.injEq] at H
                 obtain ⟨rfl,rfl,rfl⟩:=H
                 have Vu:=C8.out
                 have Vv:=BP.out
                 have Vw:=CZ.out
                 have Vx:=BO.out
                 have Vy:=C9.out
                 have Vz:=BQ.out
                 have Qu:=BJ.out
                 have Qv:=Db.out
                 have Jq : wr.cell? ⟨BH,0,none⟩ = some (.string ((aA Bw Bz).f1.f0)):=(ah BD.out 0).trans rfl
                 have Jr : wr.cell? ⟨BH,1,none⟩ = some (.string ((aA Bw Bz).f1.f1)):=(ah BD.out 1).trans rfl
                 have Js : wr.cell? ⟨BH,2,none⟩ = some (.int .i64 ((aA Bw Bz).f1.f2)):=(ah BD.out 2).trans rfl
                 have Jt : wr.cell? ⟨BH,3,none⟩ = some (.int .i64 ((aA Bw Bz).f1.f3)):=(ah BD.out 3).trans rfl
                 have Ju : wr.cell? ⟨BH,4,none⟩ = some (.bool ((aA Bw Bz).f1.f4)):=(ah BD.out 4).trans rfl
                 have Jv : wr.cell? ⟨BH,5,none⟩ = some (.slice Dv ((aA Bw Bz).f1.f5).length Cn):=(ah BD.out 5).trans rfl
                 have Jw:=av BD.out 0
                 have Jy:=av BD.out 1
                 have Jz:=av BD.out 2
                 have JA:=av BD.out 3
                 have JB:=av BD.out 4
                 have JC:=av BD.out 5
                 have DZ : 0 ≤ (Cg : Int):=of_decide_eq_true (by first|(with_reducible assumption)|assumption)
                 have D5 : Cg < (((aA Bw Bz).f1.f5).length : Int):=of_decide_eq_true (by first|(with_reducible assumption)|assumption)
                 obtain ⟨Dw,DT,DU,D6,D7,Ej,El,E8,CK,CO,CP,CQ,CS,CU,CV,Dh,Di,Dj,Dk,Dl,Dm⟩:=lK Es.out Cg DZ D5
                 cases E8
                 replace CK:=(HB.out.cell (World.block_lt_of_cell? w _ CK)).trans CK
                 replace CO:=(HB.out.cell (World.block_lt_of_cell? w _ CO)).trans CO
                 replace CP:=(HB.out.cell (World.block_lt_of_cell? w _ CP)).trans CP
                 replace CQ:=(HB.out.cell (World.block_lt_of_cell? w _ CQ)).trans CQ
                 replace CS:=(HB.out.cell (World.block_lt_of_cell? w _ CS)).trans CS
                 replace CU:=(HB.out.cell (World.block_lt_of_cell? w _ CU)).trans CU
                 replace CV:=(HB.out.cell (World.block_lt_of_cell? w _ CV)).trans CV
                 have EM:=Aside0.mk Di
                 have EN:=Aside0.mk Dh
                 clear Di Dh
                 have EO:=Aside0.mk Dk
                 have EP:=Aside0.mk Dj
                 clear Dk Dj
                 have ER:=Aside0.mk Dm
                 have ES:=Aside0.mk Dl
                 clear Dm Dl
                 replace DZ:=eq_true DZ
                 replace D5:=eq_true D5
                 go_wp2_with (first|((with_reducible refine bN (N:=9) rfl ?_);(try (refine eX (by rfl) ?_;dsimp only));refine bT ?hg (N:=9) ?hd (cs:=#[.string (⟨#[]⟩ : ByteArray),.string (⟨#[]⟩ : ByteArray),.slice none 0 0,.slice none 0 0,.int .i64 0,.int .i64 0,.slice none 0 0]) (t:=106) ?hr ?_;(case hd=>rfl);(case hg=>rfl);(case hr=>first|(go_simp;done)|(go_simp;rfl));intro BI hg Fe hbox hb;have D8:=Aside0.mk (Kd.fB (by (with_reducible repeat (first|apply Kd.dw|apply Kd.dx|apply Kd.dN));exact BL.out) hb);have D9:=Aside0.mk (Kd.iE (kr_ Ce.out) hb);have Ea:=Aside0.mk (aJ (g:=Ci) (o:=.cells #[.int .u64 Ck,.slice (some CJ) Bw.length Dn] 47 (0,0)) (bk_ BU.out) hb);have Eb:=Aside0.mk (aJ (g:=Cc) (o:=.cells #[.int .u64 Cb,.slice none 0 0] 39 (0,0)) (bk_ BN.out) hb);have Ef:=Aside0.mk (aJ (g:=Cm) (o:=.cells #[.int .u64 Ck,Ch] 39 (0,0)) (bk_ BZ.out) hb);have Eh:=Aside0.mk (aJ (g:=BH) (o:=.cells #[.string ((aA Bw Bz).f1.f0),.string ((aA Bw Bz).f1.f1),.int .i64 ((aA Bw Bz).f1.f2),.int .i64 ((aA Bw Bz).f1.f3),.bool ((aA Bw Bz).f1.f4),.slice (some Dw) ((aA Bw Bz).f1.f5).length Cn] 94 (0,0)) (bk_ BD.out) hb);have Ei:=Aside0.mk (aJ (g:=BF) (o:=.cells #[.string ((aA Bw Bz).f0),.string ((aA Bw Bz).f1.f0),.string ((aA Bw Bz).f1.f1),.int .u8 ((((aA Bw Bz).f1.f2)) % 256),.int .u16 (IntKind.u16.wrap (((aA Bw Bz).f1.f3))),Cy] 88 (0,0)) (bk_ BS.out) hb);have EC:=Aside0.mk (aN hb_ hb);have ED:=Aside0.mk (hbox);have EW:=Aside0.mk ((by rw [hg];exact (aR hb_) : w.heap.size ≤ BI));have DV:=Aside0.mk ((by rw [hg];exact (aR hb_) : w.heap.size ≤ BI));have DW:=Aside0.mk ((by rw [hg];exact Nat.ne_of_lt (aW (g:=Ci) (o:=.cells #[.int .u64 Ck,.slice (some CJ) Bw.length Dn] 47 (0,0)) (bk_ BU.out)) : Ci ≠ BI));have DX:=Aside0.mk ((by rw [hg];exact Nat.ne_of_gt (aW (g:=Ci) (o:=.cells #[.int .u64 Ck,.slice (some CJ) Bw.length Dn] 47 (0,0)) (bk_ BU.out)) : BI ≠ Ci));have DY:=Aside0.mk ((by rw [hg];exact Nat.ne_of_lt (aW (g:=Cc) (o:=.cells #[.int .u64 Cb,.slice none 0 0] 39 (0,0)) (bk_ BN.out)) : Cc ≠ BI));have Ec:=Aside0.mk ((by rw [hg];exact Nat.ne_of_gt (aW (g:=Cc) (o:=.cells #[.int .u64 Cb,.slice none 0 0] 39 (0,0)) (bk_ BN.out)) : BI ≠ Cc));have Ed:=Aside0.mk ((by rw [hg];exact Nat.ne_of_lt (aW (g:=Cm) (o:=.cells #[.int .u64 Ck,Ch] 39 (0,0)) (bk_ BZ.out)) : Cm ≠ BI));have Ee:=Aside0.mk ((by rw [hg];exact Nat.ne_of_gt (aW (g:=Cm) (o:=.cells #[.int .u64 Ck,Ch] 39 (0,0)) (bk_ BZ.out)) : BI ≠ Cm));have Em:=Aside0.mk ((by rw [hg];exact Nat.ne_of_lt (aW (g:=BH) (o:=.cells #[.string ((aA Bw Bz).f1.f0),.string ((aA Bw Bz).f1.f1),.int .i64 ((aA Bw Bz).f1.f2),.int .i64 ((aA Bw Bz).f1.f3),.bool ((aA Bw Bz).f1.f4),.slice (some Dw) ((aA Bw Bz).f1.f5).length Cn] 94 (0,0)) (bk_ BD.out)) : BH ≠ BI));have En:=Aside0.mk ((by rw [hg];exact Nat.ne_of_gt (aW (g:=BH) (o:=.cells #[.string ((aA Bw Bz).f1.f0),.string ((aA Bw Bz).f1.f1),.int .i64 ((aA Bw Bz).f1.f2),.int .i64 ((aA Bw Bz).f1.f3),.bool ((aA Bw Bz).f1.f4),.slice (some Dw) ((aA Bw Bz).f1.f5).length Cn] 94 (0,0)) (bk_ BD.out)) : BI ≠ BH));have Eo:=Aside0.mk ((by rw [hg];exact Nat.ne_of_lt (aW (g:=BF) (o:=.cells #[.string ((aA Bw Bz).f0),.string ((aA Bw Bz).f1.f0),.string ((aA Bw Bz).f1.f1),.int .u8 ((((aA Bw Bz).f1.f2)) % 256),.int .u16 (IntKind.u16.wrap (((aA Bw Bz).f1.f3))),Cy] 88 (0,0)) (bk_ BS.out)) : BF ≠ BI));have Ep:=Aside0.mk ((by rw [hg];exact Nat.ne_of_gt (aW (g:=BF) (o:=.cells #[.string ((aA Bw Bz).f0),.string ((aA Bw Bz).f1.f0),.string ((aA Bw Bz).f1.f1),.int .u8 ((((aA Bw Bz).f1.f2)) % 256),.int .u16 (IntKind.u16.wrap (((aA Bw Bz).f1.f3))),Cy] 88 (0,0)) (bk_ BS.out)) : BI ≠ BF));clear BL;clear Ce;clear BU;clear BN;clear BZ;clear BD;clear BS;clear HB;have BL:=D8;have Ce:=D9;have BU:=Ea;have BN:=Eb;have BZ:=Ef;have BD:=Eh;have BS:=Ei;have HB:=EC;have BR:=ED;have Fj:=EW;have Fp:=DV;have Cz:=DW;have Dp:=DX;have BK:=DY;have Dq:=Ec;have CB:=Ed;have Dr:=Ee;have CF:=Em;have Dt:=En;have CG:=Eo;have Du:=Ep;clear D8 D9 Ea Eb Ef Eh Ei EC ED EW DV DW DX DY Ec Ed Ee Em En Eo Ep;clear hb hbox hg;have Qw:=Dp.out;have Qx:=Cz.out;have Qy:=Dq.out;have Qz:=BK.out;have QA:=Dr.out;have QB:=CB.out;have QC:=Dt.out;have QD:=CF.out;have QE:=Du.out;have QF:=CG.out;have JD : Fe.cell? ⟨BI,0,none⟩ = some (.string (⟨#[]⟩ : ByteArray)):=(ah BR.out 0).trans rfl;have JE : Fe.cell? ⟨BI,1,none⟩ = some (.string (⟨#[]⟩ : ByteArray)):=(ah BR.out 1).trans rfl;have JF : Fe.cell? ⟨BI,2,none⟩ = some (.slice none 0 0):=(ah BR.out 2).trans rfl;have JG : Fe.cell? ⟨BI,3,none⟩ = some (.slice none 0 0):=(ah BR.out 3).trans rfl;have JH : Fe.cell? ⟨BI,4,none⟩ = some (.int .i64 0):=(ah BR.out 4).trans rfl;have JI : Fe.cell? ⟨BI,5,none⟩ = some (.int .i64 0):=(ah BR.out 5).trans rfl;have JJ : Fe.cell? ⟨BI,6,none⟩ = some (.slice none 0 0):=(ah BR.out 6).trans rfl;have JK:=av BR.out 0;have JL:=av BR.out 1;have JM:=av BR.out 2;have JN:=av BR.out 3;have JO:=av BR.out 4;have JQ:=av BR.out 5;have JR:=av BR.out 6;have QG:=Dy.out;have QH:=Dx.out;have QI:=Df.out;have QJ:=Dz.out;have QK:=Co.out;have QL:=Da.out;have JU : Fe.cell? ⟨Cc,0,none⟩ = some (.int .u64 Cb):=(ah BN.out 0).trans rfl;have JV : Fe.cell? ⟨Cc,1,none⟩ = some (.slice none 0 0):=(ah BN.out 1).trans rfl;have JW:=av BN.out 0;have JX:=av BN.out 1))
                 refine bodyPost_ret (iy rfl _ _ Cc 39 #[.int .u64 0,.slice none 0 0] (0,0) _ rfl (by (with_reducible repeat (first|apply aj|apply ay|apply ak));refine aQ (cs:=#[.int .u64 0,.slice none 0 0]) ?_ 1 _ rfl;(with_reducible repeat (first|apply aj|apply ay|apply ak));refine aQ (cs:=#[.int .u64 Cb,.slice none 0 0]) ?_ 0 _ rfl;(with_reducible repeat (first|apply aj|apply ay|apply ak));refine aD ?_ BK.out _;(with_reducible repeat (first|apply aj|apply ay|apply ak));refine aD ?_ BK.out _;(with_reducible repeat (first|apply aj|apply ay|apply ak));refine aD ?_ BK.out _;(with_reducible repeat (first|apply aj|apply ay|apply ak));refine aD ?_ BK.out _;(with_reducible repeat (first|apply aj|apply ay|apply ak));refine aD ?_ BK.out _;(with_reducible repeat (first|apply aj|apply ay|apply ak));refine aD ?_ BK.out _;(with_reducible repeat (first|apply aj|apply ay|apply ak));refine aD ?_ BK.out _;(with_reducible repeat (first|apply aj|apply ay|apply ak));exact BN.out) Tryz.underlying39 rfl (by kernel_rfl)) rfl ?_
                 exact ⟨_,by first|rfl|(simp [bg,bA] <;> rfl)|(simp [*,bg,bA] <;> rfl),by first|exact Kd.lW _ _ _ _ _|exact Kd.jw _ _ _ _ _|exact Kd.kR _ _ _ _ _|exact Kd.lT _ _ _ _ _|exact Kd.je _ _ _ _ _,hb_⟩
                ·rw [if_neg Jl] at H
                 have c96b0 : decide (0 < (((bE ((aA Bw Bz).f1.f5) Cg).f6).length : Int)) = false:=decide_eq_false Jl
                 have c96b1 : decide (0 < ((bE ((aA Bw Bz).f1.f5) Cg).f6).length) = false:=decide_eq_false (by omega)
                 clear Jl
                 by_cases FE : ((bE ((aA Bw Bz).f1.f5) Cg).f4) = 100
                 ·rw [if_pos FE] at H
                  have c113b0 : (((bE ((aA Bw Bz).f1.f5) Cg).f4) == 100) = true:=beq_iff_eq.mpr FE
                  have c113b1 : (((bE ((aA Bw Bz).f1.f5) Cg).f4) != 100) = false:=bne_eq_false_iff_eq.mpr FE
                  clear FE
                  by_cases FH : ((bE ((aA Bw Bz).f1.f5) Cg).f5) = 64
                  ·rw [if_pos FH] at H
                   have c114b0 : (((bE ((aA Bw Bz).f1.f5) Cg).f5) == 64) = true:=beq_iff_eq.mpr FH
                   have c114b1 : (((bE ((aA Bw Bz).f1.f5) Cg).f5) != 64) = false:=bne_eq_false_iff_eq.mpr FH
                   clear FH
                   by_cases IK : Dc.length < 4398046511104
                   ·rw [if_pos IK] at H
                    have Je:=Aside0.mk IK
                    clear IK
                    obtain ⟨Im,Fq⟩ : ∃ y_ : List (S89),y_ = (Dc ++ [(⟨(bE ((aA Bw Bz).f1.f5) Cg).f0,(bE ((aA Bw Bz).f1.f5) Cg).f1⟩ : S89)]):=⟨_,rfl⟩
                    replace H : (aI.l1 k3 Bz (wrap64 (Cg + 1)) Ck Bw Ck CY ((aA Bw Bz).f1.f0) ((aA Bw Bz).f1.f1) ((aA Bw Bz).f1.f2) ((aA Bw Bz).f1.f3) ((aA Bw Bz).f1.f4) ((aA Bw Bz).f1.f5) ((aA Bw Bz).f0) ((aA Bw Bz).f1.f0) ((aA Bw Bz).f1.f1) ((((aA Bw Bz).f1.f2)) % 256) (IntKind.u16.wrap (((aA Bw Bz).f1.f3))) Im) = some (r1,r2,r3):=by first|(rw [Fq];with_reducible exact H)|(have Jf:=(Option.bind_some _ _).symm.trans H;rw [Fq];with_reducible exact Jf)|(have Jf:=(Option.bind_some _ _).symm.trans H;with_reducible exact Jf)|with_reducible exact H|(rw [Fq];exact H)|exact H
                    have JY:=Aside0.mk Fq
                    clear Fq
                    have H':=Aside0.mk H
                    clear H
                    have QM:=C8.out
                    have QN:=BP.out
                    have QO:=CZ.out
                    have QS:=BO.out
                    have QT:=C9.out
                    have QU:=BQ.out
                    have QV:=BJ.out
                    have QW:=Db.out
                    have JZ : wr.cell? ⟨BH,0,none⟩ = some (.string ((aA Bw Bz).f1.f0)):=(ah BD.out 0).trans rfl
                    have J2 : wr.cell? ⟨BH,1,none⟩ = some (.string ((aA Bw Bz).f1.f1)):=(ah BD.out 1).trans rfl
                    have J3 : wr.cell? ⟨BH,2,none⟩ = some (.int .i64 ((aA Bw Bz).f1.f2)):=(ah BD.out 2).trans rfl
                    have J4 : wr.cell? ⟨BH,3,none⟩ = some (.int .i64 ((aA Bw Bz).f1.f3)):=(ah BD.out 3).trans rfl
                    have J5 : wr.cell? ⟨BH,4,none⟩ = some (.bool ((aA Bw Bz).f1.f4)):=(ah BD.out 4).trans rfl
                    have J6 : wr.cell? ⟨BH,5,none⟩ = some (.slice Dv ((aA Bw Bz).f1.f5).length Cn):=(ah BD.out 5).trans rfl
                    have J7:=av BD.out 0
                    have J8:=av BD.out 1
                    have J9:=av BD.out 2
                    have Ka:=av BD.out 3
                    have Ke:=av BD.out 4
                    have Kg:=av BD.out 5
                    have DZ : 0 ≤ (Cg : Int):=of_decide_eq_true (by first|(with_reducible assumption)|assumption)
                    have D5 : Cg < (((aA Bw Bz).f1.f5).length : Int):=of_decide_eq_true (by first|(with_reducible assumption)|assumption)
                    obtain ⟨Dw,DT,DU,D6,D7,Ej,El,E8,CK,CO,CP,CQ,CS,CU,CV,Dh,Di,Dj,Dk,Dl,Dm⟩:=lK Es.out Cg DZ D5
                    cases E8
                    replace CK:=(HB.out.cell (World.block_lt_of_cell? w _ CK)).trans CK
                    replace CO:=(HB.out.cell (World.block_lt_of_cell? w _ CO)).trans CO
                    replace CP:=(HB.out.cell (World.block_lt_of_cell? w _ CP)).trans CP
                    replace CQ:=(HB.out.cell (World.block_lt_of_cell? w _ CQ)).trans CQ
                    replace CS:=(HB.out.cell (World.block_lt_of_cell? w _ CS)).trans CS
                    replace CU:=(HB.out.cell (World.block_lt_of_cell? w _ CU)).trans CU
                    replace CV:=(HB.out.cell (World.block_lt_of_cell? w _ CV)).trans CV
                    have EM:=Aside0.mk Di
                    have EN:=Aside0.mk Dh
                    clear Di Dh
                    have EO:=Aside0.mk Dk
                    have EP:=Aside0.mk Dj
                    clear Dk Dj
                    have ER:=Aside0.mk Dm
                    have ES:=Aside0.mk Dl
                    clear Dm Dl
                    replace DZ:=eq_true DZ
                    replace D5:=eq_true D5
                    go_wp2_with (first|((with_reducible refine bN (N:=9) rfl ?_);(try (refine eX (by rfl) ?_;dsimp only));refine bT ?hg (N:=9) ?hd (cs:=#[.string (⟨#[]⟩ : ByteArray),.string (⟨#[]⟩ : ByteArray),.slice none 0 0,.slice none 0 0,.int .i64 0,.int .i64 0,.slice none 0 0]) (t:=106) ?hr ?_;(case hd=>rfl);(case hg=>rfl);(case hr=>first|(go_simp;done)|(go_simp;rfl));intro BI hg EU hbox hb;have D8:=Aside0.mk (Kd.fB (by (with_reducible repeat (first|apply Kd.dw|apply Kd.dx|apply Kd.dN));exact BL.out) hb);have D9:=Aside0.mk (Kd.iE (kr_ Ce.out) hb);have Ea:=Aside0.mk (aJ (g:=Ci) (o:=.cells #[.int .u64 Ck,.slice (some CJ) Bw.length Dn] 47 (0,0)) (bk_ BU.out) hb);have Eb:=Aside0.mk (aJ (g:=Cc) (o:=.cells #[.int .u64 Cb,.slice none 0 0] 39 (0,0)) (bk_ BN.out) hb);have Ef:=Aside0.mk (aJ (g:=Cm) (o:=.cells #[.int .u64 Ck,Ch] 39 (0,0)) (bk_ BZ.out) hb);have Eh:=Aside0.mk (aJ (g:=BH) (o:=.cells #[.string ((aA Bw Bz).f1.f0),.string ((aA Bw Bz).f1.f1),.int .i64 ((aA Bw Bz).f1.f2),.int .i64 ((aA Bw Bz).f1.f3),.bool ((aA Bw Bz).f1.f4),.slice (some Dw) ((aA Bw Bz).f1.f5).length Cn] 94 (0,0)) (bk_ BD.out) hb);have Ei:=Aside0.mk (aJ (g:=BF) (o:=.cells #[.string ((aA Bw Bz).f0),.string ((aA Bw Bz).f1.f0),.string ((aA Bw Bz).f1.f1),.int .u8 ((((aA Bw Bz).f1.f2)) % 256),.int .u16 (IntKind.u16.wrap (((aA Bw Bz).f1.f3))),Cy] 88 (0,0)) (bk_ BS.out) hb);have EC:=Aside0.mk (aN hb_ hb);have ED:=Aside0.mk (hbox);have EW:=Aside0.mk ((by rw [hg];exact (aR hb_) : w.heap.size ≤ BI));have DV:=Aside0.mk ((by rw [hg];exact (aR hb_) : w.heap.size ≤ BI));have DW:=Aside0.mk ((by rw [hg];exact Nat.ne_of_lt (aW (g:=Ci) (o:=.cells #[.int .u64 Ck,.slice (some CJ) Bw.length Dn] 47 (0,0)) (bk_ BU.out)) : Ci ≠ BI));have DX:=Aside0.mk ((by rw [hg];exact Nat.ne_of_gt (aW (g:=Ci) (o:=.cells #[.int .u64 Ck,.slice (some CJ) Bw.length Dn] 47 (0,0)) (bk_ BU.out)) : BI ≠ Ci));have DY:=Aside0.mk ((by rw [hg];exact Nat.ne_of_lt (aW (g:=Cc) (o:=.cells #[.int .u64 Cb,.slice none 0 0] 39 (0,0)) (bk_ BN.out)) : Cc ≠ BI));have Ec:=Aside0.mk ((by rw [hg];exact Nat.ne_of_gt (aW (g:=Cc) (o:=.cells #[.int .u64 Cb,.slice none 0 0] 39 (0,0)) (bk_ BN.out)) : BI ≠ Cc));have Ed:=Aside0.mk ((by rw [hg];exact Nat.ne_of_lt (aW (g:=Cm) (o:=.cells #[.int .u64 Ck,Ch] 39 (0,0)) (bk_ BZ.out)) : Cm ≠ BI));have Ee:=Aside0.mk ((by rw [hg];exact Nat.ne_of_gt (aW (g:=Cm) (o:=.cells #[.int .u64 Ck,Ch] 39 (0,0)) (bk_ BZ.out)) : BI ≠ Cm));have Em:=Aside0.mk ((by rw [hg];exact Nat.ne_of_lt (aW (g:=BH) (o:=.cells #[.string ((aA Bw Bz).f1.f0),.string ((aA Bw Bz).f1.f1),.int .i64 ((aA Bw Bz).f1.f2),.int .i64 ((aA Bw Bz).f1.f3),.bool ((aA Bw Bz).f1.f4),.slice (some Dw) ((aA Bw Bz).f1.f5).length Cn] 94 (0,0)) (bk_ BD.out)) : BH ≠ BI));have En:=Aside0.mk ((by rw [hg];exact Nat.ne_of_gt (aW (g:=BH) (o:=.cells #[.string ((aA Bw Bz).f1.f0),.string ((aA Bw Bz).f1.f1),.int .i64 ((aA Bw Bz).f1.f2),.int .i64 ((aA Bw Bz).f1.f3),.bool ((aA Bw Bz).f1.f4),.slice (some Dw) ((aA Bw Bz).f1.f5).length Cn] 94 (0,0)) (bk_ BD.out)) : BI ≠ BH));have Eo:=Aside0.mk ((by rw [hg];exact Nat.ne_of_lt (aW (g:=BF) (o:=.cells #[.string ((aA Bw Bz).f0),.string ((aA Bw Bz).f1.f0),.string ((aA Bw Bz).f1.f1),.int .u8 ((((aA Bw Bz).f1.f2)) % 256),.int .u16 (IntKind.u16.wrap (((aA Bw Bz).f1.f3))),Cy] 88 (0,0)) (bk_ BS.out)) : BF ≠ BI));have Ep:=Aside0.mk ((by rw [hg];exact Nat.ne_of_gt (aW (g:=BF) (o:=.cells #[.string ((aA Bw Bz).f0),.string ((aA Bw Bz).f1.f0),.string ((aA Bw Bz).f1.f1),.int .u8 ((((aA Bw Bz).f1.f2)) % 256),.int .u16 (IntKind.u16.wrap (((aA Bw Bz).f1.f3))),Cy] 88 (0,0)) (bk_ BS.out)) : BI ≠ BF));clear BL;clear Ce;clear BU;clear BN;clear BZ;clear BD;clear BS;clear HB;have BL:=D8;have Ce:=D9;have BU:=Ea;have BN:=Eb;have BZ:=Ef;have BD:=Eh;have BS:=Ei;have HB:=EC;have BR:=ED;have Fj:=EW;have Fp:=DV;have Cz:=DW;have Dp:=DX;have BK:=DY;have Dq:=Ec;have CB:=Ed;have Dr:=Ee;have CF:=Em;have Dt:=En;have CG:=Eo;have Du:=Ep;clear D8 D9 Ea Eb Ef Eh Ei EC ED EW DV DW DX DY Ec Ed Ee Em En Eo Ep;clear hb hbox hg;have QX:=Dp.out;have QY:=Cz.out;have QZ:=Dq.out;have Q0:=BK.out;have Q5:=Dr.out;have Q6:=CB.out;have Q7:=Dt.out;have Q8:=CF.out;have Q9:=Du.out;have Ra:=CG.out;have Kh : EU.cell? ⟨BI,0,none⟩ = some (.string (⟨#[]⟩ : ByteArray)):=(ah BR.out 0).trans rfl;have Ki : EU.cell? ⟨BI,1,none⟩ = some (.string (⟨#[]⟩ : ByteArray)):=(ah BR.out 1).trans rfl;have Kj : EU.cell? ⟨BI,2,none⟩ = some (.slice none 0 0):=(ah BR.out 2).trans rfl;have Kk : EU.cell? ⟨BI,3,none⟩ = some (.slice none 0 0):=(ah BR.out 3).trans rfl;have Kl : EU.cell? ⟨BI,4,none⟩ = some (.int .i64 0):=(ah BR.out 4).trans rfl;have Km : EU.cell? ⟨BI,5,none⟩ = some (.int .i64 0):=(ah BR.out 5).trans rfl;have Kn : EU.cell? ⟨BI,6,none⟩ = some (.slice none 0 0):=(ah BR.out 6).trans rfl;have Ko:=av BR.out 0;have Kq:=av BR.out 1;have Kr:=av BR.out 2;have Kt:=av BR.out 3;have Ku:=av BR.out 4;have Kv:=av BR.out 5;have Kw:=av BR.out 6;have Rb:=DI.out;have Rc:=Cj.out;have Rf:=Da.out;have Rh:=Co.out;have Ri:=DJ.out;have Rj:=CW.out;have Ky : EU.cell? ⟨BF,0,none⟩ = some (.string ((aA Bw Bz).f0)):=(ah BS.out 0).trans rfl;have Kz : EU.cell? ⟨BF,1,none⟩ = some (.string ((aA Bw Bz).f1.f0)):=(ah BS.out 1).trans rfl;have KA : EU.cell? ⟨BF,2,none⟩ = some (.string ((aA Bw Bz).f1.f1)):=(ah BS.out 2).trans rfl;have KC : EU.cell? ⟨BF,3,none⟩ = some (.int .u8 ((((aA Bw Bz).f1.f2)) % 256)):=(ah BS.out 3).trans rfl;have KD : EU.cell? ⟨BF,4,none⟩ = some (.int .u16 (IntKind.u16.wrap (((aA Bw Bz).f1.f3)))):=(ah BS.out 4).trans rfl;have KE : EU.cell? ⟨BF,5,none⟩ = some (Cy):=(ah BS.out 5).trans rfl;have KF:=av BS.out 0;have KG:=av BS.out 1;have KH:=av BS.out 2;have KI:=av BS.out 3;have KJ:=av BS.out 4;have KL:=av BS.out 5)|((with_reducible refine jF (b:=.append) (xs:=#[.tmp 106,.tmp 112]) rfl ?_);(try (refine eX (by rfl) ?_;dsimp only));at_builtin;refine Kd.jW k89 (w0:=w) w.heap.size rfl (.tmp 106) (.tmp 112) 86 89 (.agg #[(.string ⟨#[]⟩),(.string ⟨#[]⟩)]) 32 rfl Tryz.underlying86 vI rfl (by decide) (by omega) Cy Dc (⟨(bE ((aA Bw Bz).f1.f5) Cg).f0,(bE ((aA Bw Bz).f1.f5) Cg).f1⟩ : S89) [.string ((bE ((aA Bw Bz).f1.f5) Cg).f0),.string ((bE ((aA Bw Bz).f1.f5) Cg).f1)] (fun _=>True) (fun _=>False) rfl (by first|(go_simp;done)|(go_simp;rfl)) ?aP (fun _ hk=>hk.elim) ?aF ?aO ?aB ?aS ?aL ?_;(case aP=>exact tF _ _ _ (⟨(bE ((aA Bw Bz).f1.f5) Cg).f0,(bE ((aA Bw Bz).f1.f5) Cg).f1⟩ : S89));(case aB=>exact hb_);(case aF=>exact (fun _ _=>trivial));(case aO=>exact (by (with_reducible repeat (first|apply Kd.kC|apply Kd.kD|apply Kd.l7));exact Kd.gM (Kd.kI (p:=⟨BI,6,none⟩) (Kd.kI (p:=⟨BI,5,none⟩) (Kd.kI (p:=⟨BI,4,none⟩) (Kd.kI (p:=⟨BI,3,none⟩) (Kd.kI (p:=⟨BI,2,none⟩) (Kd.kI (p:=⟨BI,1,none⟩) (Kd.kI (p:=⟨BI,0,none⟩) (Kd.jm Ce.out BR.out (by decide)) (fun _ hk=>hk.2) (.string ((bE ((aA Bw Bz).f1.f5) Cg).f0))) (fun _ hk=>hk.2) (.string ((bE ((aA Bw Bz).f1.f5) Cg).f1))) (fun _ hk=>hk.2) (.slice DT ((bE ((aA Bw Bz).f1.f5) Cg).f2).length DU)) (fun _ hk=>hk.2) (.slice D6 ((bE ((aA Bw Bz).f1.f5) Cg).f3).length D7)) (fun _ hk=>hk.2) (.int .i64 ((bE ((aA Bw Bz).f1.f5) Cg).f4))) (fun _ hk=>hk.2) (.int .i64 ((bE ((aA Bw Bz).f1.f5) Cg).f5))) (fun _ hk=>hk.2) (.slice Ej ((bE ((aA Bw Bz).f1.f5) Cg).f6).length El)) (fun _ hk=>trivial)));(case aS=>exact (aR hb_));(case aL=>have:=Je.out;omega);intro V8 Ij ho hb hg hat;rw [← JY.out] at ho;have D8:=Aside0.mk (Kd.sS (ok:=(fun k_=>k_ ≠ BF)) (by (with_reducible repeat (first|apply Kd.dw|apply Kd.dx|apply Kd.dN));exact Kd.fV (Kd.dB (p:=⟨BI,6,none⟩) (Kd.dB (p:=⟨BI,5,none⟩) (Kd.dB (p:=⟨BI,4,none⟩) (Kd.dB (p:=⟨BI,3,none⟩) (Kd.dB (p:=⟨BI,2,none⟩) (Kd.dB (p:=⟨BI,1,none⟩) (Kd.dB (p:=⟨BI,0,none⟩) (Kd.gV BL.out BR.out (by decide)) (fun _ hk=>hk.2) (.string ((bE ((aA Bw Bz).f1.f5) Cg).f0))) (fun _ hk=>hk.2) (.string ((bE ((aA Bw Bz).f1.f5) Cg).f1))) (fun _ hk=>hk.2) (.slice DT ((bE ((aA Bw Bz).f1.f5) Cg).f2).length DU)) (fun _ hk=>hk.2) (.slice D6 ((bE ((aA Bw Bz).f1.f5) Cg).f3).length D7)) (fun _ hk=>hk.2) (.int .i64 ((bE ((aA Bw Bz).f1.f5) Cg).f4))) (fun _ hk=>hk.2) (.int .i64 ((bE ((aA Bw Bz).f1.f5) Cg).f5))) (fun _ hk=>hk.2) (.slice Ej ((bE ((aA Bw Bz).f1.f5) Cg).f6).length El)) (fun _ hk=>⟨hk.1.2,hk.1.1⟩)) hg hat);have D9:=Aside0.mk (eH (g:=Ci) (o:=.cells #[.int .u64 Ck,.slice (some CJ) Bw.length Dn] 47 (0,0)) (by (with_reducible repeat (first|apply aj|apply ay|apply ak));refine aD ?_ Cz.out _;(with_reducible repeat (first|apply aj|apply ay|apply ak));refine aD ?_ Cz.out _;(with_reducible repeat (first|apply aj|apply ay|apply ak));refine aD ?_ Cz.out _;(with_reducible repeat (first|apply aj|apply ay|apply ak));refine aD ?_ Cz.out _;(with_reducible repeat (first|apply aj|apply ay|apply ak));refine aD ?_ Cz.out _;(with_reducible repeat (first|apply aj|apply ay|apply ak));refine aD ?_ Cz.out _;(with_reducible repeat (first|apply aj|apply ay|apply ak));refine aD ?_ Cz.out _;(with_reducible repeat (first|apply aj|apply ay|apply ak));exact BU.out) hg (Kd.jE Ce.out BU.out (by decide)));have Ea:=Aside0.mk (eH (g:=Cc) (o:=.cells #[.int .u64 Cb,.slice none 0 0] 39 (0,0)) (by (with_reducible repeat (first|apply aj|apply ay|apply ak));refine aD ?_ BK.out _;(with_reducible repeat (first|apply aj|apply ay|apply ak));refine aD ?_ BK.out _;(with_reducible repeat (first|apply aj|apply ay|apply ak));refine aD ?_ BK.out _;(with_reducible repeat (first|apply aj|apply ay|apply ak));refine aD ?_ BK.out _;(with_reducible repeat (first|apply aj|apply ay|apply ak));refine aD ?_ BK.out _;(with_reducible repeat (first|apply aj|apply ay|apply ak));refine aD ?_ BK.out _;(with_reducible repeat (first|apply aj|apply ay|apply ak));refine aD ?_ BK.out _;(with_reducible repeat (first|apply aj|apply ay|apply ak));exact BN.out) hg (Kd.jE Ce.out BN.out (by decide)));have Eb:=Aside0.mk (eH (g:=Cm) (o:=.cells #[.int .u64 Ck,Ch] 39 (0,0)) (by (with_reducible repeat (first|apply aj|apply ay|apply ak));refine aD ?_ CB.out _;(with_reducible repeat (first|apply aj|apply ay|apply ak));refine aD ?_ CB.out _;(with_reducible repeat (first|apply aj|apply ay|apply ak));refine aD ?_ CB.out _;(with_reducible repeat (first|apply aj|apply ay|apply ak));refine aD ?_ CB.out _;(with_reducible repeat (first|apply aj|apply ay|apply ak));refine aD ?_ CB.out _;(with_reducible repeat (first|apply aj|apply ay|apply ak));refine aD ?_ CB.out _;(with_reducible repeat (first|apply aj|apply ay|apply ak));refine aD ?_ CB.out _;(with_reducible repeat (first|apply aj|apply ay|apply ak));exact BZ.out) hg (Kd.jE Ce.out BZ.out (by decide)));have Ef:=Aside0.mk (eH (g:=BH) (o:=.cells #[.string ((aA Bw Bz).f1.f0),.string ((aA Bw Bz).f1.f1),.int .i64 ((aA Bw Bz).f1.f2),.int .i64 ((aA Bw Bz).f1.f3),.bool ((aA Bw Bz).f1.f4),.slice (some Dw) ((aA Bw Bz).f1.f5).length Cn] 94 (0,0)) (by (with_reducible repeat (first|apply aj|apply ay|apply ak));refine aD ?_ CF.out _;(with_reducible repeat (first|apply aj|apply ay|apply ak));refine aD ?_ CF.out _;(with_reducible repeat (first|apply aj|apply ay|apply ak));refine aD ?_ CF.out _;(with_reducible repeat (first|apply aj|apply ay|apply ak));refine aD ?_ CF.out _;(with_reducible repeat (first|apply aj|apply ay|apply ak));refine aD ?_ CF.out _;(with_reducible repeat (first|apply aj|apply ay|apply ak));refine aD ?_ CF.out _;(with_reducible repeat (first|apply aj|apply ay|apply ak));refine aD ?_ CF.out _;(with_reducible repeat (first|apply aj|apply ay|apply ak));exact BD.out) hg (Kd.jE Ce.out BD.out (by decide)));have Eh:=Aside0.mk (eH (g:=BF) (o:=.cells #[.string ((aA Bw Bz).f0),.string ((aA Bw Bz).f1.f0),.string ((aA Bw Bz).f1.f1),.int .u8 ((((aA Bw Bz).f1.f2)) % 256),.int .u16 (IntKind.u16.wrap (((aA Bw Bz).f1.f3))),Cy] 88 (0,0)) (by (with_reducible repeat (first|apply aj|apply ay|apply ak));refine aD ?_ CG.out _;(with_reducible repeat (first|apply aj|apply ay|apply ak));refine aD ?_ CG.out _;(with_reducible repeat (first|apply aj|apply ay|apply ak));refine aD ?_ CG.out _;(with_reducible repeat (first|apply aj|apply ay|apply ak));refine aD ?_ CG.out _;(with_reducible repeat (first|apply aj|apply ay|apply ak));refine aD ?_ CG.out _;(with_reducible repeat (first|apply aj|apply ay|apply ak));refine aD ?_ CG.out _;(with_reducible repeat (first|apply aj|apply ay|apply ak));refine aD ?_ CG.out _;(with_reducible repeat (first|apply aj|apply ay|apply ak));exact BS.out) hg (Kd.jE Ce.out BS.out (by decide)));have Ei:=Aside0.mk (eH (g:=BI) (o:=.cells #[.string ((bE ((aA Bw Bz).f1.f5) Cg).f0),.string ((bE ((aA Bw Bz).f1.f5) Cg).f1),.slice DT ((bE ((aA Bw Bz).f1.f5) Cg).f2).length DU,.slice D6 ((bE ((aA Bw Bz).f1.f5) Cg).f3).length D7,.int .i64 ((bE ((aA Bw Bz).f1.f5) Cg).f4),.int .i64 ((bE ((aA Bw Bz).f1.f5) Cg).f5),.slice Ej ((bE ((aA Bw Bz).f1.f5) Cg).f6).length El] 106 (0,0)) (by (with_reducible repeat (first|apply aj|apply ay|apply ak));refine aQ (cs:=#[.string ((bE ((aA Bw Bz).f1.f5) Cg).f0),.string ((bE ((aA Bw Bz).f1.f5) Cg).f1),.slice DT ((bE ((aA Bw Bz).f1.f5) Cg).f2).length DU,.slice D6 ((bE ((aA Bw Bz).f1.f5) Cg).f3).length D7,.int .i64 ((bE ((aA Bw Bz).f1.f5) Cg).f4),.int .i64 ((bE ((aA Bw Bz).f1.f5) Cg).f5),.slice none 0 0]) ?_ 6 _ rfl;(with_reducible repeat (first|apply aj|apply ay|apply ak));refine aQ (cs:=#[.string ((bE ((aA Bw Bz).f1.f5) Cg).f0),.string ((bE ((aA Bw Bz).f1.f5) Cg).f1),.slice DT ((bE ((aA Bw Bz).f1.f5) Cg).f2).length DU,.slice D6 ((bE ((aA Bw Bz).f1.f5) Cg).f3).length D7,.int .i64 ((bE ((aA Bw Bz).f1.f5) Cg).f4),.int .i64 0,.slice none 0 0]) ?_ 5 _ rfl;(with_reducible repeat (first|apply aj|apply ay|apply ak));refine aQ (cs:=#[.string ((bE ((aA Bw Bz).f1.f5) Cg).f0),.string ((bE ((aA Bw Bz).f1.f5) Cg).f1),.slice DT ((bE ((aA Bw Bz).f1.f5) Cg).f2).length DU,.slice D6 ((bE ((aA Bw Bz).f1.f5) Cg).f3).length D7,.int .i64 0,.int .i64 0,.slice none 0 0]) ?_ 4 _ rfl;(with_reducible repeat (first|apply aj|apply ay|apply ak));refine aQ (cs:=#[.string ((bE ((aA Bw Bz).f1.f5) Cg).f0),.string ((bE ((aA Bw Bz).f1.f5) Cg).f1),.slice DT ((bE ((aA Bw Bz).f1.f5) Cg).f2).length DU,.slice none 0 0,.int .i64 0,.int .i64 0,.slice none 0 0]) ?_ 3 _ rfl;(with_reducible repeat (first|apply aj|apply ay|apply ak));refine aQ (cs:=#[.string ((bE ((aA Bw Bz).f1.f5) Cg).f0),.string ((bE ((aA Bw Bz).f1.f5) Cg).f1),.slice none 0 0,.slice none 0 0,.int .i64 0,.int .i64 0,.slice none 0 0]) ?_ 2 _ rfl;(with_reducible repeat (first|apply aj|apply ay|apply ak));refine aQ (cs:=#[.string ((bE ((aA Bw Bz).f1.f5) Cg).f0),.string (⟨#[]⟩ : ByteArray),.slice none 0 0,.slice none 0 0,.int .i64 0,.int .i64 0,.slice none 0 0]) ?_ 1 _ rfl;(with_reducible repeat (first|apply aj|apply ay|apply ak));refine aQ (cs:=#[.string (⟨#[]⟩ : ByteArray),.string (⟨#[]⟩ : ByteArray),.slice none 0 0,.slice none 0 0,.int .i64 0,.int .i64 0,.slice none 0 0]) ?_ 0 _ rfl;(with_reducible repeat (first|apply aj|apply ay|apply ak));exact BR.out) hg (Kd.jE Ce.out BR.out (by decide)));have EC:=Aside0.mk (hb);have ED:=Aside0.mk (ho);clear BL;clear BU;clear BN;clear BZ;clear BD;clear BS;clear BR;clear HB;clear Ce;have BL:=D8;have BU:=D9;have BN:=Ea;have BZ:=Eb;have BD:=Ef;have BS:=Eh;have BR:=Ei;have HB:=EC;have IY:=ED;clear D8 D9 Ea Eb Ef Eh Ei EC ED;clear ho hb hg hat;obtain ⟨Io,Ip,KM⟩:=Kd.iJ IY.out;subst KM;have KN : Ij.cell? ⟨BF,0,none⟩ = some (.string ((aA Bw Bz).f0)):=(ah BS.out 0).trans rfl;have KO : Ij.cell? ⟨BF,1,none⟩ = some (.string ((aA Bw Bz).f1.f0)):=(ah BS.out 1).trans rfl;have KP : Ij.cell? ⟨BF,2,none⟩ = some (.string ((aA Bw Bz).f1.f1)):=(ah BS.out 2).trans rfl;have KQ : Ij.cell? ⟨BF,3,none⟩ = some (.int .u8 ((((aA Bw Bz).f1.f2)) % 256)):=(ah BS.out 3).trans rfl;have KR : Ij.cell? ⟨BF,4,none⟩ = some (.int .u16 (IntKind.u16.wrap (((aA Bw Bz).f1.f3)))):=(ah BS.out 4).trans rfl;have KS : Ij.cell? ⟨BF,5,none⟩ = some (Cy):=(ah BS.out 5).trans rfl;have KT:=av BS.out 0;have KU:=av BS.out 1;have KV:=av BS.out 2;have KW:=av BS.out 3;have KX:=av BS.out 4;have KY:=av BS.out 5))
                    go_roundg k3
                    case measure=>have:=Ir.out;have:=Iu.out;have:=OU.out;omega
                    case rel=>exact ⟨(wrap64 (Cg + 1)),(Cb),(Im),(.slice Io Im.length Ip),(by first|rfl|(simp;done)|(simp [*];done)),H',⟨by have:=Ir.out;have:=Iu.out;have:=OU.out;omega⟩,⟨by (with_reducible repeat (first|apply Kd.dw|apply Kd.dx|apply Kd.dN));exact Kd.fV (Kd.dB (p:=⟨BF,5,none⟩) (Kd.fV BL.out (fun k_ hk=>(⟨hk,hk.1⟩ : _ ∧ k_ ≠ BF))) (fun _ hk=>hk.2) (.slice Io Im.length Ip)) (fun _ hk=>⟨hk.1.2,hk.1.1⟩)⟩,⟨by (with_reducible repeat (first|apply Kd.kC|apply Kd.kD|apply Kd.l7));exact Kd.gM (Kd.kI (p:=⟨BF,5,none⟩) (Kd.jm IY.out BS.out (by decide)) (fun _ hk=>hk.2) (.slice Io Im.length Ip)) (fun _ hk=>trivial)⟩,⟨by (with_reducible repeat (first|apply aj|apply ay|apply ak));refine aD ?_ Cj.out _;(with_reducible repeat (first|apply aj|apply ay|apply ak));exact BU.out⟩,⟨by (with_reducible repeat (first|apply aj|apply ay|apply ak));refine aD ?_ Co.out _;(with_reducible repeat (first|apply aj|apply ay|apply ak));exact BN.out⟩,⟨by (with_reducible repeat (first|apply aj|apply ay|apply ak));refine aD ?_ CW.out _;(with_reducible repeat (first|apply aj|apply ay|apply ak));exact BZ.out⟩,⟨by (with_reducible repeat (first|apply aj|apply ay|apply ak));refine aD ?_ BJ.out _;(with_reducible repeat (first|apply aj|apply ay|apply ak));exact BD.out⟩,⟨by (with_reducible repeat (first|apply aj|apply ay|apply ak));refine aQ (cs:=#[.string ((aA Bw Bz).f0),.string ((aA Bw Bz).f1.f0),.string ((aA Bw Bz).f1.f1),.int .u8 ((((aA Bw Bz).f1.f2)) % 256),.int .u16 (IntKind.u16.wrap (((aA Bw Bz).f1.f3))),Cy]) ?_ 5 _ rfl;(with_reducible repeat (first|apply aj|apply ay|apply ak));exact BS.out⟩,⟨hb_⟩⟩
                   ·rw [if_neg IK] at H
                    exact absurd H (by simp)
                  ·rw [if_neg FH] at H
                   have c114b0 : (((bE ((aA Bw Bz).f1.f5) Cg).f5) == 64) = false:=beq_eq_false_iff_ne.mpr FH
                   have c114b1 : (((bE ((aA Bw Bz).f1.f5) Cg).f5) != 64) = true:=bne_iff_ne.mpr FH
                   simp only [Option.some.injEq,Prod.mk.injEq] at H
                   obtain ⟨rfl,rfl,rfl⟩:=H
                   have Rk:=C8.out
                   have Rl:=BP.out
                   have Rm:=CZ.out
                   have Rn:=BO.out
                   have Ro:=C9.out
                   have Rp:=BQ.out
                   have Rq:=BJ.out
                   have Rs:=Db.out
                   have KZ : wr.cell? ⟨BH,0,none⟩ = some (.string ((aA Bw Bz).f1.f0)):=(ah BD.out 0).trans rfl
                   have K4 : wr.cell? ⟨BH,1,none⟩ = some (.string ((aA Bw Bz).f1.f1)):=(ah BD.out 1).trans rfl
                   have K7 : wr.cell? ⟨BH,2,none⟩ = some (.int .i64 ((aA Bw Bz).f1.f2)):=(ah BD.out 2).trans rfl
                   have K8 : wr.cell? ⟨BH,3,none⟩ = some (.int .i64 ((aA Bw Bz).f1.f3)):=(ah BD.out 3).trans rfl
                   have K9 : wr.cell? ⟨BH,4,none⟩ = some (.bool ((aA Bw Bz).f1.f4)):=(ah BD.out 4).trans rfl
                   have La : wr.cell? ⟨BH,5,none⟩ = some (.slice Dv ((aA Bw Bz).f1.f5).length Cn):=(ah BD.out 5).trans rfl
                   have Lb:=av BD.out 0
                   have Lc:=av BD.out 1
                   have Ld:=av BD.out 2
                   have Le:=av BD.out 3
                   have Lf:=av BD.out 4
                   have Lg:=av BD.out 5
                   have DZ : 0 ≤ (Cg : Int):=of_decide_eq_true (by first|(with_reducible assumption)|assumption)
                   have D5 : Cg < (((aA Bw Bz).f1.f5).length : Int):=of_decide_eq_true (by first|(with_reducible assumption)|assumption)
                   obtain ⟨Dw,DT,DU,D6,D7,Ej,El,E8,CK,CO,CP,CQ,CS,CU,CV,Dh,Di,Dj,Dk,Dl,Dm⟩:=lK Es.out Cg DZ D5
                   cases E8
                   replace CK:=(HB.out.cell (World.block_lt_of_cell? w _ CK)).trans CK
                   replace CO:=(HB.out.cell (World.block_lt_of_cell? w _ CO)).trans CO
                   replace CP:=(HB.out.cell (World.block_lt_of_cell? w _ CP)).trans CP
                   replace CQ:=(HB.out.cell (World.block_lt_of_cell? w _ CQ)).trans CQ
                   replace CS:=(HB.out.cell (World.block_lt_of_cell? w _ CS)).trans CS
                   replace CU:=(HB.out.cell (World.block_lt_of_cell? w _ CU)).trans CU
                   replace CV:=(HB.out.cell (World.block_lt_of_cell? w _ CV)).trans CV
                   have EM:=Aside0.mk Di
                   have EN:=Aside0.mk Dh
                   clear Di Dh
                   have EO:=Aside0.mk Dk
                   have EP:=Aside0.mk Dj
                   clear Dk Dj
                   have ER:=Aside0.mk Dm
                   have ES:=Aside0.mk Dl
                   clear Dm Dl
                   replace DZ:=eq_true DZ
                   replace D5:=eq_true D5
                   go_wp2_with (first|((with_reducible refine bN (N:=9) rfl ?_);(try (refine eX (by rfl) ?_;dsimp only));refine bT ?hg (N:=9) ?hd (cs:=#[.string (⟨#[]⟩ : ByteArray),.string (⟨#[]⟩ : ByteArray),.slice none 0 0,.slice none 0 0,.int .i64 0,.int .i64 0,.slice none 0 0]) (t:=106) ?hr ?_;(case hd=>rfl);(case hg=>rfl);(case hr=>first|(go_simp;done)|(go_simp;rfl));intro BI hg Fg hbox hb;have D8:=Aside0.mk (Kd.fB (by (with_reducible repeat (first|apply Kd.dw|apply Kd.dx|apply Kd.dN));exact BL.out) hb);have D9:=Aside0.mk (Kd.iE (kr_ Ce.out) hb);have Ea:=Aside0.mk (aJ (g:=Ci) (o:=.cells #[.int .u64 Ck,.slice (some CJ) Bw.length Dn] 47 (0,0)) (bk_ BU.out) hb);have Eb:=Aside0.mk (aJ (g:=Cc) (o:=.cells #[.int .u64 Cb,.slice none 0 0] 39 (0,0)) (bk_ BN.out) hb);have Ef:=Aside0.mk (aJ (g:=Cm) (o:=.cells #[.int .u64 Ck,Ch] 39 (0,0)) (bk_ BZ.out) hb);have Eh:=Aside0.mk (aJ (g:=BH) (o:=.cells #[.string ((aA Bw Bz).f1.f0),.string ((aA Bw Bz).f1.f1),.int .i64 ((aA Bw Bz).f1.f2),.int .i64 ((aA Bw Bz).f1.f3),.bool ((aA Bw Bz).f1.f4),.slice (some Dw) ((aA Bw Bz).f1.f5).length Cn] 94 (0,0)) (bk_ BD.out) hb);have Ei:=Aside0.mk (aJ (g:=BF) (o:=.cells #[.string ((aA Bw Bz).f0),.string ((aA Bw Bz).f1.f0),.string ((aA Bw Bz).f1.f1),.int .u8 ((((aA Bw Bz).f1.f2)) % 256),.int .u16 (IntKind.u16.wrap (((aA Bw Bz).f1.f3))),Cy] 88 (0,0)) (bk_ BS.out) hb);have EC:=Aside0.mk (aN hb_ hb);have ED:=Aside0.mk (hbox);have EW:=Aside0.mk ((by rw [hg];exact (aR hb_) : w.heap.size ≤ BI));have DV:=Aside0.mk ((by rw [hg];exact (aR hb_) : w.heap.size ≤ BI));have DW:=Aside0.mk ((by rw [hg];exact Nat.ne_of_lt (aW (g:=Ci) (o:=.cells #[.int .u64 Ck,.slice (some CJ) Bw.length Dn] 47 (0,0)) (bk_ BU.out)) : Ci ≠ BI));have DX:=Aside0.mk ((by rw [hg];exact Nat.ne_of_gt (aW (g:=Ci) (o:=.cells #[.int .u64 Ck,.slice (some CJ) Bw.length Dn] 47 (0,0)) (bk_ BU.out)) : BI ≠ Ci));have DY:=Aside0.mk ((by rw [hg];exact Nat.ne_of_lt (aW (g:=Cc) (o:=.cells #[.int .u64 Cb,.slice none 0 0] 39 (0,0)) (bk_ BN.out)) : Cc ≠ BI));have Ec:=Aside0.mk ((by rw [hg];exact Nat.ne_of_gt (aW (g:=Cc) (o:=.cells #[.int .u64 Cb,.slice none 0 0] 39 (0,0)) (bk_ BN.out)) : BI ≠ Cc));have Ed:=Aside0.mk ((by rw [hg];exact Nat.ne_of_lt (aW (g:=Cm) (o:=.cells #[.int .u64 Ck,Ch] 39 (0,0)) (bk_ BZ.out)) : Cm ≠ BI));have Ee:=Aside0.mk ((by rw [hg];exact Nat.ne_of_gt (aW (g:=Cm) (o:=.cells #[.int .u64 Ck,Ch] 39 (0,0)) (bk_ BZ.out)) : BI ≠ Cm));have Em:=Aside0.mk ((by rw [hg];exact Nat.ne_of_lt (aW (g:=BH) (o:=.cells #[.string ((aA Bw Bz).f1.f0),.string ((aA Bw Bz).f1.f1),.int .i64 ((aA Bw Bz).f1.f2),.int .i64 ((aA Bw Bz).f1.f3),.bool ((aA Bw Bz).f1.f4),.slice (some Dw) ((aA Bw Bz).f1.f5).length Cn] 94 (0,0)) (bk_ BD.out)) : BH ≠ BI));have En:=Aside0.mk ((by rw [hg];exact Nat.ne_of_gt (aW (g:=BH) (o:=.cells #[.string ((aA Bw Bz).f1.f0),.string ((aA Bw Bz).f1.f1),.int .i64 ((aA Bw Bz).f1.f2),.int .i64 ((aA Bw Bz).f1.f3),.bool ((aA Bw Bz).f1.f4),.slice (some Dw) ((aA Bw Bz).f1.f5).length Cn] 94 (0,0)) (bk_ BD.out)) : BI ≠ BH));have Eo:=Aside0.mk ((by rw [hg];exact Nat.ne_of_lt (aW (g:=BF) (o:=.cells #[.string ((aA Bw Bz).f0),.string ((aA Bw Bz).f1.f0),.string ((aA Bw Bz).f1.f1),.int .u8 ((((aA Bw Bz).f1.f2)) % 256),.int .u16 (IntKind.u16.wrap (((aA Bw Bz).f1.f3))),Cy] 88 (0,0)) (bk_ BS.out)) : BF ≠ BI));have Ep:=Aside0.mk ((by rw [hg];exact Nat.ne_of_gt (aW (g:=BF) (o:=.cells #[.string ((aA Bw Bz).f0),.string ((aA Bw Bz).f1.f0),.string ((aA Bw Bz).f1.f1),.int .u8 ((((aA Bw Bz).f1.f2)) % 256),.int .u16 (IntKind.u16.wrap (((aA Bw Bz).f1.f3))),Cy] 88 (0,0)) (bk_ BS.out)) : BI ≠ BF));clear BL;clear Ce;clear BU;clear BN;clear BZ;clear BD;clear BS;clear HB;have BL:=D8;have Ce:=D9;have BU:=Ea;have BN:=Eb;have BZ:=Ef;have BD:=Eh;have BS:=Ei;have HB:=EC;have BR:=ED;have Fj:=EW;have Fp:=DV;have Cz:=DW;have Dp:=DX;have BK:=DY;have Dq:=Ec;have CB:=Ed;have Dr:=Ee;have CF:=Em;have Dt:=En;have CG:=Eo;have Du:=Ep;clear D8 D9 Ea Eb Ef Eh Ei EC ED EW DV DW DX DY Ec Ed Ee Em En Eo Ep;clear hb hbox hg;have Rt:=Dp.out;have Ru:=Cz.out;have Rv:=Dq.out;have Rw:=BK.out;have Rx:=Dr.out;have Ry:=CB.out;have Rz:=Dt.out;have RA:=CF.out;have RB:=Du.out;have RD:=CG.out;have Lh : Fg.cell? ⟨BI,0,none⟩ = some (.string (⟨#[]⟩ : ByteArray)):=(ah BR.out 0).trans rfl;have Li : Fg.cell? ⟨BI,1,none⟩ = some (.string (⟨#[]⟩ : ByteArray)):=(ah BR.out 1).trans rfl;have Lj : Fg.cell? ⟨BI,2,none⟩ = some (.slice none 0 0):=(ah BR.out 2).trans rfl;have Ll : Fg.cell? ⟨BI,3,none⟩ = some (.slice none 0 0):=(ah BR.out 3).trans rfl;have Lm : Fg.cell? ⟨BI,4,none⟩ = some (.int .i64 0):=(ah BR.out 4).trans rfl;have Lp : Fg.cell? ⟨BI,5,none⟩ = some (.int .i64 0):=(ah BR.out 5).trans rfl;have Lr : Fg.cell? ⟨BI,6,none⟩ = some (.slice none 0 0):=(ah BR.out 6).trans rfl;have Ls:=av BR.out 0;have Lu:=av BR.out 1;have Lv:=av BR.out 2;have Lx:=av BR.out 3;have LA:=av BR.out 4;have LC:=av BR.out 5;have LD:=av BR.out 6;have RF:=Dy.out;have RG:=Dx.out;have RH:=Df.out;have RI:=Dz.out;have RJ:=Co.out;have RL:=Da.out;have LG : Fg.cell? ⟨Cc,0,none⟩ = some (.int .u64 Cb):=(ah BN.out 0).trans rfl;have LJ : Fg.cell? ⟨Cc,1,none⟩ = some (.slice none 0 0):=(ah BN.out 1).trans rfl;have LK:=av BN.out 0;have LP:=av BN.out 1))
                   refine bodyPost_ret (iy rfl _ _ Cc 39 #[.int .u64 0,.slice none 0 0] (0,0) _ rfl (by (with_reducible repeat (first|apply aj|apply ay|apply ak));refine aQ (cs:=#[.int .u64 0,.slice none 0 0]) ?_ 1 _ rfl;(with_reducible repeat (first|apply aj|apply ay|apply ak));refine aQ (cs:=#[.int .u64 Cb,.slice none 0 0]) ?_ 0 _ rfl;(with_reducible repeat (first|apply aj|apply ay|apply ak));refine aD ?_ BK.out _;(with_reducible repeat (first|apply aj|apply ay|apply ak));refine aD ?_ BK.out _;(with_reducible repeat (first|apply aj|apply ay|apply ak));refine aD ?_ BK.out _;(with_reducible repeat (first|apply aj|apply ay|apply ak));refine aD ?_ BK.out _;(with_reducible repeat (first|apply aj|apply ay|apply ak));refine aD ?_ BK.out _;(with_reducible repeat (first|apply aj|apply ay|apply ak));refine aD ?_ BK.out _;(with_reducible repeat (first|apply aj|apply ay|apply ak));refine aD ?_ BK.out _;(with_reducible repeat (first|apply aj|apply ay|apply ak));exact BN.out) Tryz.underlying39 rfl (by kernel_rfl)) rfl ?_
                   exact ⟨_,by first|rfl|(simp [bg,bA] <;> rfl)|(simp [*,bg,bA] <;> rfl),by first|exact Kd.lW _ _ _ _ _|exact Kd.jw _ _ _ _ _|exact Kd.kR _ _ _ _ _|exact Kd.lT _ _ _ _ _|exact Kd.je _ _ _ _ _,hb_⟩
                 ·rw [if_neg FE] at H
                  have c113b0 : (((bE ((aA Bw Bz).f1.f5) Cg).f4) == 100) = false:=beq_eq_false_iff_ne.mpr FE
                  have c113b1 : (((bE ((aA Bw Bz).f1.f5) Cg).f4) != 100) = true:=bne_iff_ne.mpr FE
                  simp only [Option.some.injEq,Prod.mk.injEq] at H
                  obtain ⟨rfl,rfl,rfl⟩:=H
                  have RN:=C8.out
                  have RO:=BP.out
                  have RP:=CZ.out
                  have RQ:=BO.out
                  have RS:=C9.out
                  have RU:=BQ.out
                  have RV:=BJ.out
                  have RX:=Db.out
                  have LQ : wr.cell? ⟨BH,0,none⟩ = some (.string ((aA Bw Bz).f1.f0)):=(ah BD.out 0).trans rfl
                  have LU : wr.cell? ⟨BH,1,none⟩ = some (.string ((aA Bw Bz).f1.f1)):=(ah BD.out 1).trans rfl
                  have LV : wr.cell? ⟨BH,2,none⟩ = some (.int .i64 ((aA Bw Bz).f1.f2)):=(ah BD.out 2).trans rfl
                  have LW : wr.cell? ⟨BH,3,none⟩ = some (.int .i64 ((aA Bw Bz).f1.f3)):=(ah BD.out 3).trans rfl
                  have LY : wr.cell? ⟨BH,4,none⟩ = some (.bool ((aA Bw Bz).f1.f4)):=(ah BD.out 4).trans rfl
                  have LZ : wr.cell? ⟨BH,5,none⟩ = some (.slice Dv ((aA Bw Bz).f1.f5).length Cn):=(ah BD.out 5).trans rfl
                  have L6:=av BD.out 0
                  have L8:=av BD.out 1
                  have L9:=av BD.out 2
                  have Ma:=av BD.out 3
                  have Md:=av BD.out 4
                  have Me:=av BD.out 5
                  have DZ : 0 ≤ (Cg : Int):=of_decide_eq_true (by first|(with_reducible assumption)|assumption)
                  have D5 : Cg < (((aA Bw Bz).f1.f5).length : Int):=of_decide_eq_true (by first|(with_reducible assumption)|assumption)
                  obtain ⟨Dw,DT,DU,D6,D7,Ej,El,E8,CK,CO,CP,CQ,CS,CU,CV,Dh,Di,Dj,Dk,Dl,Dm⟩:=lK Es.out Cg DZ D5
                  cases E8
                  replace CK:=(HB.out.cell (World.block_lt_of_cell? w _ CK)).trans CK
                  replace CO:=(HB.out.cell (World.block_lt_of_cell? w _ CO)).trans CO
                  replace CP:=(HB.out.cell (World.block_lt_of_cell? w _ CP)).trans CP
                  replace CQ:=(HB.out.cell (World.block_lt_of_cell? w _ CQ)).trans CQ
                  replace CS:=(HB.out.cell (World.block_lt_of_cell? w _ CS)).trans CS
                  replace CU:=(HB.out.cell (World.block_lt_of_cell? w _ CU)).trans CU
                  replace CV:=(HB.out.cell (World.block_lt_of_cell? w _ CV)).trans CV
                  have EM:=Aside0.mk Di
                  have EN:=Aside0.mk Dh
                  clear Di Dh
                  have EO:=Aside0.mk Dk
                  have EP:=Aside0.mk Dj
                  clear Dk Dj
                  have ER:=Aside0.mk Dm
                  have ES:=Aside0.mk Dl
                  clear Dm Dl
                  replace DZ:=eq_true DZ
                  replace D5:=eq_true D5
                  go_wp2_with (first|((with_reducible refine bN (N:=9) rfl ?_);(try (refine eX (by rfl) ?_;dsimp only));refine bT ?hg (N:=9) ?hd (cs:=#[.string (⟨#[]⟩ : ByteArray),.string (⟨#[]⟩ : ByteArray),.slice none 0 0,.slice none 0 0,.int .i64 0,.int .i64 0,.slice none 0 0]) (t:=106) ?hr ?_;(case hd=>rfl);(case hg=>rfl);(case hr=>first|(go_simp;done)|(go_simp;rfl));intro BI hg Fh hbox hb;have D8:=Aside0.mk (Kd.fB (by (with_reducible repeat (first|apply Kd.dw|apply Kd.dx|apply Kd.dN));exact BL.out) hb);have D9:=Aside0.mk (Kd.iE (kr_ Ce.out) hb);have Ea:=Aside0.mk (aJ (g:=Ci) (o:=.cells #[.int .u64 Ck,.slice (some CJ) Bw.length Dn] 47 (0,0)) (bk_ BU.out) hb);have Eb:=Aside0.mk (aJ (g:=Cc) (o:=.cells #[.int .u64 Cb,.slice none 0 0] 39 (0,0)) (bk_ BN.out) hb);have Ef:=Aside0.mk (aJ (g:=Cm) (o:=.cells #[.int .u64 Ck,Ch] 39 (0,0)) (bk_ BZ.out) hb);have Eh:=Aside0.mk (aJ (g:=BH) (o:=.cells #[.string ((aA Bw Bz).f1.f0),.string ((aA Bw Bz).f1.f1),.int .i64 ((aA Bw Bz).f1.f2),.int .i64 ((aA Bw Bz).f1.f3),.bool ((aA Bw Bz).f1.f4),.slice (some Dw) ((aA Bw Bz).f1.f5).length Cn] 94 (0,0)) (bk_ BD.out) hb);have Ei:=Aside0.mk (aJ (g:=BF) (o:=.cells #[.string ((aA Bw Bz).f0),.string ((aA Bw Bz).f1.f0),.string ((aA Bw Bz).f1.f1),.int .u8 ((((aA Bw Bz).f1.f2)) % 256),.int .u16 (IntKind.u16.wrap (((aA Bw Bz).f1.f3))),Cy] 88 (0,0)) (bk_ BS.out) hb);have EC:=Aside0.mk (aN hb_ hb);have ED:=Aside0.mk (hbox);have EW:=Aside0.mk ((by rw [hg];exact (aR hb_) : w.heap.size ≤ BI));have DV:=Aside0.mk ((by rw [hg];exact (aR hb_) : w.heap.size ≤ BI));have DW:=Aside0.mk ((by rw [hg];exact Nat.ne_of_lt (aW (g:=Ci) (o:=.cells #[.int .u64 Ck,.slice (some CJ) Bw.length Dn] 47 (0,0)) (bk_ BU.out)) : Ci ≠ BI));have DX:=Aside0.mk ((by rw [hg];exact Nat.ne_of_gt (aW (g:=Ci) (o:=.cells #[.int .u64 Ck,.slice (some CJ) Bw.length Dn] 47 (0,0)) (bk_ BU.out)) : BI ≠ Ci));have DY:=Aside0.mk ((by rw [hg];exact Nat.ne_of_lt (aW (g:=Cc) (o:=.cells #[.int .u64 Cb,.slice none 0 0] 39 (0,0)) (bk_ BN.out)) : Cc ≠ BI));have Ec:=Aside0.mk ((by rw [hg];exact Nat.ne_of_gt (aW (g:=Cc) (o:=.cells #[.int .u64 Cb,.slice none 0 0] 39 (0,0)) (bk_ BN.out)) : BI ≠ Cc));have Ed:=Aside0.mk ((by rw [hg];exact Nat.ne_of_lt (aW (g:=Cm) (o:=.cells #[.int .u64 Ck,Ch] 39 (0,0)) (bk_ BZ.out)) : Cm ≠ BI));have Ee:=Aside0.mk ((by rw [hg];exact Nat.ne_of_gt (aW (g:=Cm) (o:=.cells #[.int .u64 Ck,Ch] 39 (0,0)) (bk_ BZ.out)) : BI ≠ Cm));have Em:=Aside0.mk ((by rw [hg];exact Nat.ne_of_lt (aW (g:=BH) (o:=.cells #[.string ((aA Bw Bz).f1.f0),.string ((aA Bw Bz).f1.f1),.int .i64 ((aA Bw Bz).f1.f2),.int .i64 ((aA Bw Bz).f1.f3),.bool ((aA Bw Bz).f1.f4),.slice (some Dw) ((aA Bw Bz).f1.f5).length Cn] 94 (0,0)) (bk_ BD.out)) : BH ≠ BI));have En:=Aside0.mk ((by rw [hg];exact Nat.ne_of_gt (aW (g:=BH) (o:=.cells #[.string ((aA Bw Bz).f1.f0),.string ((aA Bw Bz).f1.f1),.int .i64 ((aA Bw Bz).f1.f2),.int .i64 ((aA Bw Bz).f1.f3),.bool ((aA Bw Bz).f1.f4),.slice (some Dw) ((aA Bw Bz).f1.f5).length Cn] 94 (0,0)) (bk_ BD.out)) : BI ≠ BH));have Eo:=Aside0.mk ((by rw [hg];exact Nat.ne_of_lt (aW (g:=BF) (o:=.cells #[.string ((aA Bw Bz).f0),.string ((aA Bw Bz).f1.f0),.string ((aA Bw Bz).f1.f1),.int .u8 ((((aA Bw Bz).f1.f2)) % 256),.int .u16 (IntKind.u16.wrap (((aA Bw Bz).f1.f3))),Cy] 88 (0,0)) (bk_ BS.out)) : BF ≠ BI));have Ep:=Aside0.mk ((by rw [hg];exact Nat.ne_of_gt (aW (g:=BF) (o:=.cells #[.string ((aA Bw Bz).f0),.string ((aA Bw Bz).f1.f0),.string ((aA Bw Bz).f1.f1),.int .u8 ((((aA Bw Bz).f1.f2)) % 256),.int .u16 (IntKind.u16.wrap (((aA Bw Bz).f1.f3))),Cy] 88 (0,0)) (bk_ BS.out)) : BI ≠ BF));clear BL;clear Ce;clear BU;clear BN;clear BZ;clear BD;clear BS;clear HB;have BL:=D8;have Ce:=D9;have BU:=Ea;have BN:=Eb;have BZ:=Ef;have BD:=Eh;have BS:=Ei;have HB:=EC;have BR:=ED;have Fj:=EW;have Fp:=DV;have Cz:=DW;have Dp:=DX;have BK:=DY;have Dq:=Ec;have CB:=Ed;have Dr:=Ee;have CF:=Em;have Dt:=En;have CG:=Eo;have Du:=Ep;clear D8 D9 Ea Eb Ef Eh Ei EC ED EW DV DW DX DY Ec Ed Ee Em En Eo Ep;clear hb hbox hg;have RY:=Dp.out;have RZ:=Cz.out;have R3:=Dq.out;have R4:=BK.out;have R5:=Dr.out;have R6:=CB.out;have R7:=Dt.out;have R8:=CF.out;have R9:=Du.out;have Sb:=CG.out;have Mf : Fh.cell? ⟨BI,0,none⟩ = some (.string (⟨#[]⟩ : ByteArray)):=(ah BR.out 0).trans rfl;have Mg : Fh.cell? ⟨BI,1,none⟩ = some (.string (⟨#[]⟩ : ByteArray)):=(ah BR.out 1).trans rfl;have Mh : Fh.cell? ⟨BI,2,none⟩ = some (.slice none 0 0):=(ah BR.out 2).trans rfl;have Mi : Fh.cell? ⟨BI,3,none⟩ = some (.slice none 0 0):=(ah BR.out 3).trans rfl;have Mj : Fh.cell? ⟨BI,4,none⟩ = some (.int .i64 0):=(ah BR.out 4).trans rfl;have Mk : Fh.cell? ⟨BI,5,none⟩ = some (.int .i64 0):=(ah BR.out 5).trans rfl;have Ml : Fh.cell? ⟨BI,6,none⟩ = some (.slice none 0 0):=(ah BR.out 6).trans rfl;have Mq:=av BR.out 0;have Mr:=av BR.out 1;have Ms:=av BR.out 2;have Mt:=av BR.out 3;have Mv:=av BR.out 4;have Mw:=av BR.out 5;have Mx:=av BR.out 6;have Sc:=Dy.out;have Sd:=Dx.out;have Sg:=Df.out;have Si:=Dz.out;have Sj:=Co.out;have Sk:=Da.out;have MB : Fh.cell? ⟨Cc,0,none⟩ = some (.int .u64 Cb):=(ah BN.out 0).trans rfl;have MC : Fh.cell? ⟨Cc,1,none⟩ = some (.slice none 0 0):=(ah BN.out 1).trans rfl;have ME:=av BN.out 0;have MF:=av BN.out 1))
                  refine bodyPost_ret (iy rfl _ _ Cc 39 #[.int .u64 0,.slice none 0 0] (0,0) _ rfl (by (with_reducible repeat (first|apply aj|apply ay|apply ak));refine aQ (cs:=#[.int .u64 0,.slice none 0 0]) ?_ 1 _ rfl;(with_reducible repeat (first|apply aj|apply ay|apply ak));refine aQ (cs:=#[.int .u64 Cb,.slice none 0 0]) ?_ 0 _ rfl;(with_reducible repeat (first|apply aj|apply ay|apply ak));refine aD ?_ BK.out _;(with_reducible repeat (first|apply aj|apply ay|apply ak));refine aD ?_ BK.out _;(with_reducible repeat (first|apply aj|apply ay|apply ak));refine aD ?_ BK.out _;(with_reducible repeat (first|apply aj|apply ay|apply ak));refine aD ?_ BK.out _;(with_reducible repeat (first|apply aj|apply ay|apply ak));refine aD ?_ BK.out _;(with_reducible repeat (first|apply aj|apply ay|apply ak));refine aD ?_ BK.out _;(with_reducible repeat (first|apply aj|apply ay|apply ak));refine aD ?_ BK.out _;(with_reducible repeat (first|apply aj|apply ay|apply ak));exact BN.out) Tryz.underlying39 rfl (by kernel_rfl)) rfl ?_
                  exact ⟨_,by first|rfl|(simp [bg,bA] <;> rfl)|(simp [*,bg,bA] <;> rfl),by first|exact Kd.lW _ _ _ _ _|exact Kd.jw _ _ _ _ _|exact Kd.kR _ _ _ _ _|exact Kd.lT _ _ _ _ _|exact Kd.je _ _ _ _ _,hb_⟩
             ·rw [if_neg OV] at H
              exact absurd H (by simp)
            ·rw [if_neg Ji] at H
             have c60b0 : decide (Cg < (((aA Bw Bz).f1.f5).length : Int)) = false:=decide_eq_false Ji
             clear Ji
             by_cases c167 : CY.length < 1759218604441
             ·rw [if_pos c167] at H
              have Jg:=Aside0.mk c167
              clear c167
              obtain ⟨IL,Fu⟩ : ∃ y_ : List (S88),y_ = (CY ++ [(⟨((aA Bw Bz).f0),((aA Bw Bz).f1.f0),((aA Bw Bz).f1.f1),((((aA Bw Bz).f1.f2)) % 256),(IntKind.u16.wrap (((aA Bw Bz).f1.f3))),Dc⟩ : S88)]):=⟨_,rfl⟩
              replace H : (aI.l0 k3 (wrap64 (Bz + 1)) Ck Bw Ck IL) = some (r1,r2,r3):=by first|(rw [Fu];with_reducible exact H)|(have Jf:=(Option.bind_some _ _).symm.trans H;rw [Fu];with_reducible exact Jf)|(have Jf:=(Option.bind_some _ _).symm.trans H;with_reducible exact Jf)|with_reducible exact H|(rw [Fu];exact H)|exact H
              have MG:=Aside0.mk Fu
              clear Fu
              have H':=Aside0.mk H
              clear H
              have Sl:=C8.out
              have Sm:=BP.out
              have Sn:=CZ.out
              have Sq:=BO.out
              have Sr:=C9.out
              have Sv:=BQ.out
              have Sw:=BJ.out
              have Sy:=Db.out
              have MH : wr.cell? ⟨BH,0,none⟩ = some (.string ((aA Bw Bz).f1.f0)):=(ah BD.out 0).trans rfl
              have MI : wr.cell? ⟨BH,1,none⟩ = some (.string ((aA Bw Bz).f1.f1)):=(ah BD.out 1).trans rfl
              have MJ : wr.cell? ⟨BH,2,none⟩ = some (.int .i64 ((aA Bw Bz).f1.f2)):=(ah BD.out 2).trans rfl
              have MK : wr.cell? ⟨BH,3,none⟩ = some (.int .i64 ((aA Bw Bz).f1.f3)):=(ah BD.out 3).trans rfl
              have ML : wr.cell? ⟨BH,4,none⟩ = some (.bool ((aA Bw Bz).f1.f4)):=(ah BD.out 4).trans rfl
              have MN : wr.cell? ⟨BH,5,none⟩ = some (.slice Dv ((aA Bw Bz).f1.f5).length Cn):=(ah BD.out 5).trans rfl
              have MO:=av BD.out 0
              have MP:=av BD.out 1
              have MQ:=av BD.out 2
              have MR:=av BD.out 3
              have MS:=av BD.out 4
              have MU:=av BD.out 5
              have Sz:=Er.out
              have SA:=DN.out
              have SB:=Dz.out
              have SC:=Df.out
              have SE:=CW.out
              have SF:=DJ.out
              have MV : wr.cell? ⟨Cm,0,none⟩ = some (.int .u64 Ck):=(ah BZ.out 0).trans rfl
              have MW : wr.cell? ⟨Cm,1,none⟩ = some (Ch):=(ah BZ.out 1).trans rfl
              have MX:=av BZ.out 0
              have MZ:=av BZ.out 1
              have SG:=DI.out
              have SH:=Cj.out
              have SI:=Da.out
              have SK:=Co.out
              have M0 : wr.cell? ⟨BF,0,none⟩ = some (.string ((aA Bw Bz).f0)):=(ah BS.out 0).trans rfl
              have M4 : wr.cell? ⟨BF,1,none⟩ = some (.string ((aA Bw Bz).f1.f0)):=(ah BS.out 1).trans rfl
              have M6 : wr.cell? ⟨BF,2,none⟩ = some (.string ((aA Bw Bz).f1.f1)):=(ah BS.out 2).trans rfl
              have M7 : wr.cell? ⟨BF,3,none⟩ = some (.int .u8 ((((aA Bw Bz).f1.f2)) % 256)):=(ah BS.out 3).trans rfl
              have M8 : wr.cell? ⟨BF,4,none⟩ = some (.int .u16 (IntKind.u16.wrap (((aA Bw Bz).f1.f3)))):=(ah BS.out 4).trans rfl
              have M9 : wr.cell? ⟨BF,5,none⟩ = some (Cy):=(ah BS.out 5).trans rfl
              have Na:=av BS.out 0
              have Nb:=av BS.out 1
              have Nc:=av BS.out 2
              have Nf:=av BS.out 3
              have Ng:=av BS.out 4
              have Nh:=av BS.out 5
              obtain ⟨Ih,Ii,Nk⟩:=Kd.iJ Ce.out
              subst Nk
              go_wp2_with (first|((with_reducible refine jF (b:=.append) (xs:=#[.tmp 116,.tmp 118]) rfl ?_);(try (refine eX (by rfl) ?_;dsimp only));at_builtin;refine Kd.qQ k88 (w0:=w) w.heap.size rfl (.tmp 116) (.tmp 118) 37 88 (.agg #[(.string ⟨#[]⟩),(.string ⟨#[]⟩),(.string ⟨#[]⟩),(.int .u8 0),(.int .u16 0),(.slice none 0 0)]) 80 rfl Tryz.underlying37 vH rfl (by decide) (by omega) Ch CY (⟨((aA Bw Bz).f0),((aA Bw Bz).f1.f0),((aA Bw Bz).f1.f1),((((aA Bw Bz).f1.f2)) % 256),(IntKind.u16.wrap (((aA Bw Bz).f1.f3))),Dc⟩ : S88) [.string ((aA Bw Bz).f0),.string ((aA Bw Bz).f1.f0),.string ((aA Bw Bz).f1.f1),.int .u8 ((((aA Bw Bz).f1.f2)) % 256),.int .u16 (IntKind.u16.wrap (((aA Bw Bz).f1.f3))),.slice Ih Dc.length Ii] (fun k_=>k_ ≠ BF) (fun k_=>some k_ = (.slice Ih Dc.length Ii : Value).ownBlock) rfl rfl ?aP (fun k_ hk_=>((Kd.gM (ok':=fun k_=>((fun k_=>k_ ≠ BF)) k_ ∧ some k_ ≠ (Ch : Value).ownBlock) (Kd.jm (Kd.mD (Ce.out) (Kd.nP BL.out) (by decide)) BS.out (by decide)) (fun k_ hk=>⟨hk.2,hk.1.2⟩))).1 k_ hk_.symm) ?aF ?aO ?aB ?aS ?aL ?_;(case aP=>exact tH _ _ _ (⟨((aA Bw Bz).f0),((aA Bw Bz).f1.f0),((aA Bw Bz).f1.f1),((((aA Bw Bz).f1.f2)) % 256),(IntKind.u16.wrap (((aA Bw Bz).f1.f3))),Dc⟩ : S88) (Kd.gM (Kd.qw rfl (Kd.gM (ok':=fun k_=>((fun k_=>k_ ≠ BF)) k_ ∧ some k_ ≠ (Ch : Value).ownBlock) (Kd.jm (Kd.mD (Ce.out) (Kd.nP BL.out) (by decide)) BS.out (by decide)) (fun k_ hk=>⟨hk.2,hk.1.2⟩))) (fun _ h_=>h_)));(case aB=>exact hb_);(case aF=>exact (fun k_ hk=>Kd.kN (g:=BF) (o:=.cells #[.string ((aA Bw Bz).f0),.string ((aA Bw Bz).f1.f0),.string ((aA Bw Bz).f1.f1),.int .u8 ((((aA Bw Bz).f1.f2)) % 256),.int .u16 (IntKind.u16.wrap (((aA Bw Bz).f1.f3))),.slice Ih Dc.length Ii] 88 (0,0)) (bk_ BS.out) k_ hk));(case aO=>exact (by (with_reducible repeat (first|apply Kd.dw|apply Kd.dx|apply Kd.dN));exact Kd.fV BL.out (fun k_ hk=>⟨hk.2,fun e_=>hk.1 e_⟩)));(case aS=>exact (aR hb_));(case aL=>have:=Jg.out;omega);intro V9 Nl ho hb hg hat;rw [← MG.out] at ho;have D8:=Aside0.mk (eH (g:=Ci) (o:=.cells #[.int .u64 Ck,.slice (some CJ) Bw.length Dn] 47 (0,0)) (bk_ BU.out) hg (Kd.qO BL.out BU.out (by decide)));have D9:=Aside0.mk (eH (g:=Cc) (o:=.cells #[.int .u64 Cb,.slice none 0 0] 39 (0,0)) (bk_ BN.out) hg (Kd.qO BL.out BN.out (by decide)));have Ea:=Aside0.mk (eH (g:=Cm) (o:=.cells #[.int .u64 Ck,Ch] 39 (0,0)) (bk_ BZ.out) hg (Kd.qO BL.out BZ.out (by decide)));have Eb:=Aside0.mk (eH (g:=BH) (o:=.cells #[.string ((aA Bw Bz).f1.f0),.string ((aA Bw Bz).f1.f1),.int .i64 ((aA Bw Bz).f1.f2),.int .i64 ((aA Bw Bz).f1.f3),.bool ((aA Bw Bz).f1.f4),.slice Dv ((aA Bw Bz).f1.f5).length Cn] 94 (0,0)) (bk_ BD.out) hg (Kd.qO BL.out BD.out (by decide)));have Ef:=Aside0.mk (eH (g:=BF) (o:=.cells #[.string ((aA Bw Bz).f0),.string ((aA Bw Bz).f1.f0),.string ((aA Bw Bz).f1.f1),.int .u8 ((((aA Bw Bz).f1.f2)) % 256),.int .u16 (IntKind.u16.wrap (((aA Bw Bz).f1.f3))),.slice Ih Dc.length Ii] 88 (0,0)) (bk_ BS.out) hg (Kd.vo BL.out (fun _ hk=>hk.2)));have Eh:=Aside0.mk (hb);have Ei:=Aside0.mk (ho);clear BU;clear BN;clear BZ;clear BD;clear BS;clear HB;clear BL;clear Ce;have BU:=D8;have BN:=D9;have BZ:=Ea;have BD:=Eb;have BS:=Ef;have HB:=Eh;have IZ:=Ei;clear D8 D9 Ea Eb Ef Eh Ei;clear ho hb hg hat;obtain ⟨I4,I5,Nn⟩:=Kd.jo IZ.out;subst Nn;have Np : Nl.cell? ⟨Cm,0,none⟩ = some (.int .u64 Ck):=(ah BZ.out 0).trans rfl;have Nq : Nl.cell? ⟨Cm,1,none⟩ = some (Ch):=(ah BZ.out 1).trans rfl;have Nr:=av BZ.out 0;have Ns:=av BZ.out 1))
              go_roundg k3
              case measure=>have:=Ir.out;have:=Iu.out;have:=OU.out;omega
              case rel=>exact ⟨(wrap64 (Bz + 1)),(Cb),(IL),(.slice I4 IL.length I5),(by first|rfl|(simp;done)|(simp [*];done)),H',⟨by have:=Ir.out;have:=Iu.out;have:=OU.out;omega⟩,⟨by (with_reducible repeat (first|apply Kd.dw|apply Kd.dx|apply Kd.dN));exact Kd.fV (Kd.dB (p:=⟨Cm,1,none⟩) (Kd.gV IZ.out BZ.out (by decide)) (fun _ hk=>hk.2) (.slice I4 IL.length I5)) (fun _ hk=>trivial)⟩,⟨by (with_reducible repeat (first|apply aj|apply ay|apply ak));refine aD ?_ DN.out _;(with_reducible repeat (first|apply aj|apply ay|apply ak));exact BU.out⟩,⟨by (with_reducible repeat (first|apply aj|apply ay|apply ak));refine aD ?_ Df.out _;(with_reducible repeat (first|apply aj|apply ay|apply ak));exact BN.out⟩,⟨by (with_reducible repeat (first|apply aj|apply ay|apply ak));refine aQ (cs:=#[.int .u64 Ck,Ch]) ?_ 1 _ rfl;(with_reducible repeat (first|apply aj|apply ay|apply ak));exact BZ.out⟩,⟨hb_⟩⟩
             ·rw [if_neg c167] at H
              exact absurd H (by simp)
         ·rw [if_neg c51] at H
          exact absurd H (by simp)
        ·rw [if_neg Jo] at H
         exact absurd H (by simp)
    ·rw [if_neg c11] at H
     exact absurd H (by simp)
   ·rw [if_neg c10] at H
    have c10b0 : decide (Bz < (Bw.length : Int)) = false:=decide_eq_false c10
    clear c10
    simp only [Option.some.injEq,Prod.mk.injEq] at H
    obtain ⟨rfl,rfl,rfl⟩:=H
    have SL:=Dx.out
    have SN:=Dy.out
    have SQ:=DN.out
    have SS:=Er.out
    have Nt : wr.cell? ⟨Ci,0,none⟩ = some (.int .u64 Ck):=(ah BU.out 0).trans rfl
    have Nu : wr.cell? ⟨Ci,1,none⟩ = some (.slice ET Bw.length Dn):=(ah BU.out 1).trans rfl
    have Nv:=av BU.out 0
    have Nw:=av BU.out 1
    have SV:=Dz.out
    have SX:=Df.out
    have Ny : wr.cell? ⟨Cm,0,none⟩ = some (.int .u64 Ck):=(ah BZ.out 0).trans rfl
    have Nz : wr.cell? ⟨Cm,1,none⟩ = some (Ch):=(ah BZ.out 1).trans rfl
    have NA:=av BZ.out 0
    have NC:=av BZ.out 1
    have ND : wr.cell? ⟨Cc,0,none⟩ = some (.int .u64 CX):=(ah BN.out 0).trans rfl
    have NG : wr.cell? ⟨Cc,1,none⟩ = some (.slice none 0 0):=(ah BN.out 1).trans rfl
    have NH:=av BN.out 0
    have NI:=av BN.out 1
    obtain ⟨I6,I7,NJ⟩:=Kd.jo BL.out
    subst NJ
    go_wp2
    refine bodyPost_ret (iy rfl _ _ Cc 39 #[.int .u64 Ck,.slice I6 CY.length I7] (0,0) _ rfl (by (with_reducible repeat (first|apply aj|apply ay|apply ak));refine aQ (cs:=#[.int .u64 Ck,.slice none 0 0]) ?_ 1 _ rfl;(with_reducible repeat (first|apply aj|apply ay|apply ak));refine aQ (cs:=#[.int .u64 CX,.slice none 0 0]) ?_ 0 _ rfl;(with_reducible repeat (first|apply aj|apply ay|apply ak));exact BN.out) Tryz.underlying39 rfl (by kernel_rfl)) rfl ?_
    exact ⟨_,by first|rfl|(simp [bg,bA] <;> rfl)|(simp [*,bg,bA] <;> rfl),by (with_reducible repeat (first|apply Kd.dw|apply Kd.dx|apply Kd.dN));exact Kd.fV (Kd.dB (p:=⟨Cc,1,none⟩) (Kd.dB (p:=⟨Cc,0,none⟩) (Kd.gV BL.out BN.out (by decide)) (fun _ hk=>hk.2) (.int .u64 Ck)) (fun _ hk=>hk.2) (.slice I6 CY.length I7)) (fun _ hk=>trivial),hb_⟩
end Go.Proofs.YtpncpefppifgdaaGreatDoor.GUt
