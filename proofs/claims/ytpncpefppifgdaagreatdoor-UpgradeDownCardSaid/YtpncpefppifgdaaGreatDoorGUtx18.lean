/- Written by this session's own program (wip/gen.py) out of the translation: plain Lean functions of the Go functions, and proofs that the calls come to their answers. No conditions beside those in the statements. -/
import Derived.Test.YtpncpefppifgdaaGreatDoorCp
import Derived.Test.YtpncpefppifgdaaGreatDoorGUtx0
import Derived.Test.YtpncpefppifgdaaGreatDoorGUtx1
import Derived.Test.YtpncpefppifgdaaGreatDoorGUtx2
import Derived.Test.YtpncpefppifgdaaGreatDoorGUtx17
namespace Go.Proofs.YtpncpefppifgdaaGreatDoor.GUt
open Go.RowKit Go.Proofs.YtpncpefppifgdaaGreatDoorW.PrintWords Go.Proofs.YtpncpefppifgdaaGreatDoorW.PrintLast Go.Proofs.YtpncpefppifgdaaGreatDoorW.PrintMore
attribute [local go_sem] fH fI gF gG eZ fq fJ fK
set_option linter.unusedVariables false
set_option linter.unusedSimpArgs false
attribute [local go_sem high] zK zL
def aX.l0 : Nat → Int → List (S79) → Int → Int → Option (Bool)
 | 0,_,_,_,_=>none
 | k + 1,x3,x7,x8,x9=>if x9 < x8 then (if 0 ≤ x9 then (if x9 < (x7.length : Int) then ((aT.f k ((aG x7 x9).f1.f0) ((aG x7 x9).f1.f1) ((aG x7 x9).f1.f2) ((aG x7 x9).f1.f3) ((aG x7 x9).f1.f4) ((aG x7 x9).f1.f5)).bind fun Cm=>(if (wrap64 (x3 + (wrap64 ((wrap64 (10 + (((aG x7 x9).f0).size : Int))) + Cm)))) > 40000 then (some false) else (aX.l0 k (wrap64 (x3 + (wrap64 ((wrap64 (10 + (((aG x7 x9).f0).size : Int))) + Cm)))) x7 x8 (wrap64 (x9 + 1))))) else (none)) else (none)) else (some true)
def aX.f (k : Nat) (Ca : Int) (Bw : List (S79)) : Option (Bool):=aX.l0 k 0 Bw (Bw.length : Int) 0
theorem aX.eB : ∀ k,(∀ y0 y1 y2 y3,LeO (aX.l0 k y0 y1 y2 y3) (aX.l0 (k + 1) y0 y1 y2 y3))
 | 0=>fun _ _ _ _ r h=>by simp [aX.l0] at h
 | k + 1=>by
  have Cn:=aX.eB k
  ·intro y0 y1 y2 y3
   unfold aX.l0
   repeat' first
   | (with_reducible exact Cn _ _ _ _)
   | (with_reducible exact aT.mono _ _ _ _ _ _ _)
   | (with_reducible exact LeO.refl _)
   | (with_reducible exact LeO.none _)
   | (with_reducible refine LeO.ite ?_ ?_)
   | (with_reducible refine LeO.bind ?_ (fun _=>?_))
   | exact Cn _ _ _ _
   | exact aT.mono _ _ _ _ _ _ _
   | exact LeO.none _
   | refine LeO.ite ?_ ?_
   | refine LeO.bind ?_ (fun _=>?_)
theorem aX.mono : ∀ a0 a1 k,LeO (aX.f k a0 a1) (aX.f (k + 1) a0 a1):=by
 intro a0 a1 k
 have Cn:=aX.eB k
 unfold aX.f
 repeat' first
   | (with_reducible exact Cn _ _ _ _)
   | (with_reducible exact aT.mono _ _ _ _ _ _ _)
   | (with_reducible exact LeO.refl _)
   | (with_reducible exact LeO.none _)
   | (with_reducible refine LeO.ite ?_ ?_)
   | (with_reducible refine LeO.bind ?_ (fun _=>?_))
   | exact Cn _ _ _ _
   | exact aT.mono _ _ _ _ _ _ _
   | exact LeO.none _
   | refine LeO.ite ?_ ?_
   | refine LeO.bind ?_ (fun _=>?_)
def aX.T5 : Bool × List (List Nat × List Nat):=(true,[([],[]),([],[]),([1],[1]),([2],[2]),([3],[3]),([],[]),([5],[5]),([6],[6]),([4,7],[4,7]),([0,8],[0,8]),([9,7,0,1,2,3,4,5,6,7,8,9],[0,9])])
def aX.B5 : List Nat:=[0,0,2,6,14,0,32,96,254,511,1023]
theorem aX.qB : gT .any (opsOf Tryz.f19 5) = aX.T5:=by kernel_rfl
theorem aX.mK : fO aX.T5.2 aX.B5 = true:=by kernel_rfl
set_option maxHeartbeats 8000000 in
set_option maxRecDepth 100000 in
theorem aX.calls (k : Nat) (Ca : Int) (CQ : Option Addr) (Cb : Nat) (Bw : List (S79)) (r : Bool) (w : World) (Di : Kd.C k79 w CQ Bw.length Bw) (Dj : Bw.length ≤ Cb) (h : aX.f k Ca Bw = some r) :
  Calls Tryz.prog 19 #[.agg #[.int .u64 Ca,.slice CQ Bw.length Cb]] w fun e w'=>e = .returned (.bool r) ∧ Below w.heap.size w w':=by
 have EH:=Tryz.underlying51
 have EI:=Tryz.underlying79
 have EJ:=Tryz.underlying77
 have Dk:=Aside0.mk Di
 have Es:=Aside0.mk Dj
 clear Di Dj
 have HB:=Aside0.mk (Below.refl w.heap.size w)
 have H : (aX.l0 k 0 Bw (Bw.length : Int) 0) = some r:=h
 clear h
 have H':=Aside0.mk H
 clear H
 go_enter Tryz.func19,Tryz.ntmps19
 go_wp2_with (first|((with_reducible refine bN (N:=1) rfl ?_);refine bT ?hg (N:=1) ?hd (cs:=#[.int .u64 Ca,.slice CQ Bw.length Cb]) (t:=51) ?hr ?_;(case hd=>rfl);(case hg=>rfl);(case hr=>first|(go_simp;done)|(go_simp;rfl));intro BL hg w2 hbox hb;have Cg:=Aside0.mk (aN hb_ hb);have Ch:=Aside0.mk (hbox);have Ci:=Aside0.mk ((by rw [hg];exact (aR hb_) : w.heap.size ≤ BL));have Dl:=Aside0.mk ((by rw [hg];exact (aR hb_) : w.heap.size ≤ BL));clear HB;have HB:=Cg;have BI:=Ch;have Et:=Ci;have Eu:=Dl;clear Cg Ch Ci Dl;clear hb hbox hg;have Dp : w2.cell? ⟨BL,0,none⟩ = some (.int .u64 Ca):=(ah BI.out 0).trans rfl;have Dq : w2.cell? ⟨BL,1,none⟩ = some (.slice CQ Bw.length Cb):=(ah BI.out 1).trans rfl;have Dr:=av BI.out 0;have Dt:=av BI.out 1))
 go_loopg [3,9] k (fun kq v3 v9 w'=>∃ (Co : Int) (Bz : Int),v3 = .int .i64 Co ∧ v9 = .int .i64 Bz ∧ Aside0 (aX.l0 kq Co Bw (Bw.length : Int) Bz = some r) ∧ Aside0 (kq ≤ k) ∧ Aside0 (w'.heap[BL]? = some (.cells #[.int .u64 Ca,(.slice CQ Bw.length Cb)] 51 (0,0))) ∧ Aside0 (Below w.heap.size w w'))
 case atStart=>exact ⟨(0),(0),(by first|rfl|(simp;done)|(simp [*];done)),(by first|rfl|(simp;done)|(simp [*];done)),H',⟨Nat.le_refl _⟩,⟨by (with_reducible repeat (first|apply aj|apply ay|apply ak));exact BI.out⟩,⟨hb_⟩⟩
 case round =>
  clear H'
  try clear c1
  try clear p2
  try clear Dp
  try clear Dq
  try clear Dr
  try clear Dt
  obtain ⟨Co,Bz,rfl,rfl,HA,CS,BI,HB⟩:=hrel
  cases gk with
  | zero=>exact absurd HA.out (by simp [aX.l0])
  | succ k1 =>
   have H:=HA.out
   clear HA
   simp only [aX.l0] at H
   by_cases c4 : Bz < (Bw.length : Int)
   ·rw [if_pos c4] at H
    have c4b0 : decide (Bz < (Bw.length : Int)) = true:=decide_eq_true c4
    clear c4
    by_cases c5 : 0 ≤ Bz
    ·rw [if_pos c5] at H
     have c5b0 : decide (0 ≤ Bz) = true:=decide_eq_true c5
     clear c5
     by_cases c6 : Bz < (Bw.length : Int)
     ·rw [if_pos c6] at H
      have c6b0 : decide (Bz < (Bw.length : Int)) = true:=decide_eq_true c6
      clear c6
      replace H:=Option.bind_eq_some_iff.mp H
      obtain ⟨Cm,Ew,H⟩:=H
      replace H : (if (wrap64 (Co + (wrap64 ((wrap64 (10 + (((aG Bw Bz).f0).size : Int))) + Cm)))) > 40000 then (some false) else (aX.l0 k1 (wrap64 (Co + (wrap64 ((wrap64 (10 + (((aG Bw Bz).f0).size : Int))) + Cm)))) Bw (Bw.length : Int) (wrap64 (Bz + 1)))) = some r:=H
      have A7:=Aside0.mk Ew
      clear Ew
      by_cases c8 : (wrap64 (Co + (wrap64 ((wrap64 (10 + (((aG Bw Bz).f0).size : Int))) + Cm)))) > 40000
      ·rw [if_pos c8] at H
       have c8b0 : decide (40000 < (wrap64 (Co + (wrap64 ((wrap64 (10 + (((aG Bw Bz).f0).size : Int))) + Cm))))) = true:=decide_eq_true c8
       clear c8
       obtain rfl:=Option.some.inj H
       have Ct : 0 ≤ (Bz : Int):=of_decide_eq_true (by first|(with_reducible assumption)|assumption)
       have Cu : Bz < (Bw.length : Int):=of_decide_eq_true (by first|(with_reducible assumption)|assumption)
       obtain ⟨BZ,BJ,BK,e215,BN,BO,BP,BQ,BR,BS,BU,Cc,Ce⟩:=kT Dk.out Bz Ct Cu
       cases e215
       replace BN:=(HB.out.cell (World.block_lt_of_cell? w _ BN)).trans BN
       replace BO:=(HB.out.cell (World.block_lt_of_cell? w _ BO)).trans BO
       replace BP:=(HB.out.cell (World.block_lt_of_cell? w _ BP)).trans BP
       replace BQ:=(HB.out.cell (World.block_lt_of_cell? w _ BQ)).trans BQ
       replace BR:=(HB.out.cell (World.block_lt_of_cell? w _ BR)).trans BR
       replace BS:=(HB.out.cell (World.block_lt_of_cell? w _ BS)).trans BS
       replace BU:=(HB.out.cell (World.block_lt_of_cell? w _ BU)).trans BU
       have Cq:=Aside0.mk Ce
       have Cr:=Aside0.mk Cc
       clear Ce Cc
       replace Ct:=eq_true Ct
       replace Cu:=eq_true Cu
       try go_wp2_with (first|((with_reducible refine bN (N:=5) rfl ?_);refine bT ?hg (N:=5) ?hd (cs:=#[.string (⟨#[]⟩ : ByteArray),.string (⟨#[]⟩ : ByteArray),.string (⟨#[]⟩ : ByteArray),.int .i64 0,.int .i64 0,.bool false,.slice none 0 0]) (t:=79) ?hr ?_;(case hd=>rfl);(case hg=>rfl);(case hr=>first|(go_simp;done)|(go_simp;rfl));intro BF hg w9 hbox hb;have Cg:=Aside0.mk (aJ (g:=BL) (o:=.cells #[.int .u64 Ca,.slice (some BZ) Bw.length Cb] 51 (0,0)) (bk_ BI.out) hb);have Ch:=Aside0.mk (aN hb_ hb);have Ci:=Aside0.mk (hbox);have Dl:=Aside0.mk ((by rw [hg];exact (aR hb_) : w.heap.size ≤ BF));have Dv:=Aside0.mk ((by rw [hg];exact (aR hb_) : w.heap.size ≤ BF));have Dw:=Aside0.mk ((by rw [hg];exact Nat.ne_of_lt (aW (g:=BL) (o:=.cells #[.int .u64 Ca,.slice (some BZ) Bw.length Cb] 51 (0,0)) (bk_ BI.out)) : BL ≠ BF));have Dx:=Aside0.mk ((by rw [hg];exact Nat.ne_of_gt (aW (g:=BL) (o:=.cells #[.int .u64 Ca,.slice (some BZ) Bw.length Cb] 51 (0,0)) (bk_ BI.out)) : BF ≠ BL));clear BI;clear HB;have BI:=Cg;have HB:=Ch;have BG:=Ci;have Dy:=Dl;have Dz:=Dv;have BH:=Dw;have Cj:=Dx;clear Cg Ch Ci Dl Dv Dw Dx;clear hb hbox hg;have Ey:=Cj.out;have Ez:=BH.out;have DR : w9.cell? ⟨BF,0,none⟩ = some (.string (⟨#[]⟩ : ByteArray)):=(ah BG.out 0).trans rfl;have DT : w9.cell? ⟨BF,1,none⟩ = some (.string (⟨#[]⟩ : ByteArray)):=(ah BG.out 1).trans rfl;have DU : w9.cell? ⟨BF,2,none⟩ = some (.string (⟨#[]⟩ : ByteArray)):=(ah BG.out 2).trans rfl;have DV : w9.cell? ⟨BF,3,none⟩ = some (.int .i64 0):=(ah BG.out 3).trans rfl;have DW : w9.cell? ⟨BF,4,none⟩ = some (.int .i64 0):=(ah BG.out 4).trans rfl;have DX : w9.cell? ⟨BF,5,none⟩ = some (.bool false):=(ah BG.out 5).trans rfl;have DY : w9.cell? ⟨BF,6,none⟩ = some (.slice none 0 0):=(ah BG.out 6).trans rfl;have DZ:=av BG.out 0;have D5:=av BG.out 1;have D6:=av BG.out 2;have D7:=av BG.out 3;have D8:=av BG.out 4;have D9:=av BG.out 5;have Ea:=av BG.out 6))
       have Cg : Aside0 ((((((((w9.setCell ⟨BF,0,none⟩ (.string ((aG Bw Bz).f0))).setCell ⟨BF,1,none⟩ (.string ((aG Bw Bz).f1.f0))).setCell ⟨BF,2,none⟩ (.string ((aG Bw Bz).f1.f1))).setCell ⟨BF,3,none⟩ (.int .i64 ((aG Bw Bz).f1.f2))).setCell ⟨BF,4,none⟩ (.int .i64 ((aG Bw Bz).f1.f3))).setCell ⟨BF,5,none⟩ (.bool ((aG Bw Bz).f1.f4))).setCell ⟨BF,6,none⟩ (.slice BJ ((aG Bw Bz).f1.f5).length BK)).heap[BL]? = some (.cells #[.int .u64 Ca,.slice (some BZ) Bw.length Cb] 51 (0,0))):=⟨by (with_reducible repeat (first|apply aj|apply ay|apply ak));refine aD ?_ BH.out _;(with_reducible repeat (first|apply aj|apply ay|apply ak));refine aD ?_ BH.out _;(with_reducible repeat (first|apply aj|apply ay|apply ak));refine aD ?_ BH.out _;(with_reducible repeat (first|apply aj|apply ay|apply ak));refine aD ?_ BH.out _;(with_reducible repeat (first|apply aj|apply ay|apply ak));refine aD ?_ BH.out _;(with_reducible repeat (first|apply aj|apply ay|apply ak));refine aD ?_ BH.out _;(with_reducible repeat (first|apply aj|apply ay|apply ak));refine aD ?_ BH.out _;(with_reducible repeat (first|apply aj|apply ay|apply ak));exact BI.out⟩
       have Ch : Aside0 ((((((((w9.setCell ⟨BF,0,none⟩ (.string ((aG Bw Bz).f0))).setCell ⟨BF,1,none⟩ (.string ((aG Bw Bz).f1.f0))).setCell ⟨BF,2,none⟩ (.string ((aG Bw Bz).f1.f1))).setCell ⟨BF,3,none⟩ (.int .i64 ((aG Bw Bz).f1.f2))).setCell ⟨BF,4,none⟩ (.int .i64 ((aG Bw Bz).f1.f3))).setCell ⟨BF,5,none⟩ (.bool ((aG Bw Bz).f1.f4))).setCell ⟨BF,6,none⟩ (.slice BJ ((aG Bw Bz).f1.f5).length BK)).heap[BF]? = some (.cells #[.string ((aG Bw Bz).f0),.string ((aG Bw Bz).f1.f0),.string ((aG Bw Bz).f1.f1),.int .i64 ((aG Bw Bz).f1.f2),.int .i64 ((aG Bw Bz).f1.f3),.bool ((aG Bw Bz).f1.f4),.slice BJ ((aG Bw Bz).f1.f5).length BK] 79 (0,0))):=⟨by (with_reducible repeat (first|apply aj|apply ay|apply ak));refine aQ (cs:=#[.string ((aG Bw Bz).f0),.string ((aG Bw Bz).f1.f0),.string ((aG Bw Bz).f1.f1),.int .i64 ((aG Bw Bz).f1.f2),.int .i64 ((aG Bw Bz).f1.f3),.bool ((aG Bw Bz).f1.f4),.slice none 0 0]) ?_ 6 _ rfl;(with_reducible repeat (first|apply aj|apply ay|apply ak));refine aQ (cs:=#[.string ((aG Bw Bz).f0),.string ((aG Bw Bz).f1.f0),.string ((aG Bw Bz).f1.f1),.int .i64 ((aG Bw Bz).f1.f2),.int .i64 ((aG Bw Bz).f1.f3),.bool false,.slice none 0 0]) ?_ 5 _ rfl;(with_reducible repeat (first|apply aj|apply ay|apply ak));refine aQ (cs:=#[.string ((aG Bw Bz).f0),.string ((aG Bw Bz).f1.f0),.string ((aG Bw Bz).f1.f1),.int .i64 ((aG Bw Bz).f1.f2),.int .i64 0,.bool false,.slice none 0 0]) ?_ 4 _ rfl;(with_reducible repeat (first|apply aj|apply ay|apply ak));refine aQ (cs:=#[.string ((aG Bw Bz).f0),.string ((aG Bw Bz).f1.f0),.string ((aG Bw Bz).f1.f1),.int .i64 0,.int .i64 0,.bool false,.slice none 0 0]) ?_ 3 _ rfl;(with_reducible repeat (first|apply aj|apply ay|apply ak));refine aQ (cs:=#[.string ((aG Bw Bz).f0),.string ((aG Bw Bz).f1.f0),.string (⟨#[]⟩ : ByteArray),.int .i64 0,.int .i64 0,.bool false,.slice none 0 0]) ?_ 2 _ rfl;(with_reducible repeat (first|apply aj|apply ay|apply ak));refine aQ (cs:=#[.string ((aG Bw Bz).f0),.string (⟨#[]⟩ : ByteArray),.string (⟨#[]⟩ : ByteArray),.int .i64 0,.int .i64 0,.bool false,.slice none 0 0]) ?_ 1 _ rfl;(with_reducible repeat (first|apply aj|apply ay|apply ak));refine aQ (cs:=#[.string (⟨#[]⟩ : ByteArray),.string (⟨#[]⟩ : ByteArray),.string (⟨#[]⟩ : ByteArray),.int .i64 0,.int .i64 0,.bool false,.slice none 0 0]) ?_ 0 _ rfl;(with_reducible repeat (first|apply aj|apply ay|apply ak));exact BG.out⟩
       have Ci : Aside0 (Below w.heap.size w (((((((w9.setCell ⟨BF,0,none⟩ (.string ((aG Bw Bz).f0))).setCell ⟨BF,1,none⟩ (.string ((aG Bw Bz).f1.f0))).setCell ⟨BF,2,none⟩ (.string ((aG Bw Bz).f1.f1))).setCell ⟨BF,3,none⟩ (.int .i64 ((aG Bw Bz).f1.f2))).setCell ⟨BF,4,none⟩ (.int .i64 ((aG Bw Bz).f1.f3))).setCell ⟨BF,5,none⟩ (.bool ((aG Bw Bz).f1.f4))).setCell ⟨BF,6,none⟩ (.slice BJ ((aG Bw Bz).f1.f5).length BK))):=⟨hb_⟩
       (try clear BI)
       (try clear BG)
       (try clear HB)
       generalize (((((((w9.setCell ⟨BF,0,none⟩ (.string ((aG Bw Bz).f0))).setCell ⟨BF,1,none⟩ (.string ((aG Bw Bz).f1.f0))).setCell ⟨BF,2,none⟩ (.string ((aG Bw Bz).f1.f1))).setCell ⟨BF,3,none⟩ (.int .i64 ((aG Bw Bz).f1.f2))).setCell ⟨BF,4,none⟩ (.int .i64 ((aG Bw Bz).f1.f3))).setCell ⟨BF,5,none⟩ (.bool ((aG Bw Bz).f1.f4))).setCell ⟨BF,6,none⟩ (.slice BJ ((aG Bw Bz).f1.f5).length BK)) = EK at Cg Ch Ci ⊢
       have BI:=Cg
       have BG:=Ch
       have HB:=Ci
       clear Cg Ch Ci
       have Cg:=Aside0.mk (ay BI.out)
       have Ch:=Aside0.mk (ay BG.out)
       have Ci:=Aside0.mk (bL HB.out)
       clear BI
       clear BG
       clear HB
       have BI:=Cg
       have BG:=Ch
       have HB:=Ci
       clear Cg Ch Ci
       refine gZ (n:=11) (S:=fun w'=>w'.cell? ⟨BF,0,none⟩ = some (.string ((aG Bw Bz).f0)) ∧ w'.cell? ⟨BF,1,none⟩ = some (.string ((aG Bw Bz).f1.f0)) ∧ w'.cell? ⟨BF,2,none⟩ = some (.string ((aG Bw Bz).f1.f1)) ∧ w'.cell? ⟨BF,3,none⟩ = some (.int .i64 ((aG Bw Bz).f1.f2)) ∧ w'.cell? ⟨BF,4,none⟩ = some (.int .i64 ((aG Bw Bz).f1.f3)) ∧ w'.cell? ⟨BF,5,none⟩ = some (.bool ((aG Bw Bz).f1.f4)) ∧ w'.cell? ⟨BF,6,none⟩ = some (.slice BJ ((aG Bw Bz).f1.f5).length BK)) (ds:=[]) #[O,O,O,O,O,O,O,O,O,O,O] (by kernel_rfl) rfl rfl ⟨(ah BG.out 0).trans rfl,(ah BG.out 1).trans rfl,(ah BG.out 2).trans rfl,(ah BG.out 3).trans rfl,(ah BG.out 4).trans rfl,(ah BG.out 5).trans rfl,(ah BG.out 6).trans rfl⟩ (fun hHeld=>?_);refine eY aX.qB aX.mK (fun HT_ HW_=>?_)
       generalize EK.drew = EM at BI BG HB hHeld ⊢
       refine pu_ 0 13 #[I,O,O,O,O,O,O,O,O,O,O] HT_.out ?_
       refine pu_ 1 14 #[I,I,O,O,O,O,O,O,O,O,O] HT_.out ?_
       refine pu_ 5 18 #[I,I,O,O,O,I,O,O,O,O,O] HT_.out ?_
       refine ta_ 2 15 #[I,I,I,O,O,I,O,O,O,O,O] HT_.out HW_.out hHeld ?_
       refine pu_ 3 16 #[I,I,I,I,O,I,O,O,O,O,O] HT_.out ?_
       refine pu_ 4 17 #[I,I,I,I,I,I,O,O,O,O,O] HT_.out ?_
       refine ta_ 6 19 #[I,I,I,I,I,I,I,O,O,O,O] HT_.out HW_.out hHeld ?_
       refine fU (i:=7) (N:=some 20) #[I,I,I,I,I,I,I,I,O,O,O] rfl rfl (cO HT_.out (by kernel_rfl)) (by decide) (fun K hK=>?_)
       refine eU Tryz.func37 (by kernel_rfl) rfl #[.agg #[.string ((aG Bw Bz).f1.f0),.string ((aG Bw Bz).f1.f1),.int .i64 ((aG Bw Bz).f1.f2),.int .i64 ((aG Bw Bz).f1.f3),.bool ((aG Bw Bz).f1.f4),.slice BJ ((aG Bw Bz).f1.f5).length BK]] (by rfl) rfl rfl (by (try simp only [List.map_toArray,List.map_cons,List.map_nil]);first|done|rfl|(simp only [List.length_drop,List.length_take];rfl)) ?_
       with_reducible refine (aT.calls k1 ((aG Bw Bz).f1.f0) ((aG Bw Bz).f1.f1) ((aG Bw Bz).f1.f2) ((aG Bw Bz).f1.f3) ((aG Bw Bz).f1.f4) _ _ ((aG Bw Bz).f1.f5) Cm _ ?CU ?CV A7.out).mono ?_
       (case CU=>repeat (first|exact (Kd.bJ Cq.out HB.out)|(with_reducible refine Kd.bH ?_ _)|(with_reducible refine Kd.bX ?_ _)|(with_reducible refine Kd.dA ?_)))
       (case CV=>exact Cr.out)
       rintro e EN ⟨rfl,hb⟩
       refine ⟨_,rfl,?_⟩
       have Cg:=Aside0.mk (aJ (g:=BL) (o:=.cells #[.int .u64 Ca,.slice (some BZ) Bw.length Cb] 51 (0,0)) (bk_ BI.out) hb)
       have Ch:=Aside0.mk (aJ (g:=BF) (o:=.cells #[.string ((aG Bw Bz).f0),.string ((aG Bw Bz).f1.f0),.string ((aG Bw Bz).f1.f1),.int .i64 ((aG Bw Bz).f1.f2),.int .i64 ((aG Bw Bz).f1.f3),.bool ((aG Bw Bz).f1.f4),.slice BJ ((aG Bw Bz).f1.f5).length BK] 79 (0,0)) (bk_ BG.out) hb)
       have Ci:=Aside0.mk (aN hb_ hb)
       clear BI
       clear BG
       clear HB
       have BI:=Cg
       have BG:=Ch
       have HB:=Ci
       clear Cg Ch Ci
       (try clear hb)
       (try clear hb2)
       (try clear hk)
       (try clear hi)
       refine hK.out _ _ ⟨(ah BG.out 0).trans rfl,(ah BG.out 1).trans rfl,(ah BG.out 2).trans rfl,(ah BG.out 3).trans rfl,(ah BG.out 4).trans rfl,(ah BG.out 5).trans rfl,(ah BG.out 6).trans rfl⟩ (fun hHeld=>?_)
       clear hK K
       refine dX (a':=?_) ?_ ?_
       rotate_left
       ·show Act.put _ (some 20) _ = _
        simp only [Act.put,List.setIfInBounds_toArray,List.set_cons_zero,List.set_cons_succ,bO,bR]
        rfl
       refine pu_ 8 21 #[I,I,I,I,I,I,I,I,I,O,O] HT_.out ?_
       refine pu_ 9 22 #[I,I,I,I,I,I,I,I,I,I,O] HT_.out ?_
       refine pu_ 10 3 #[I,I,I,I,I,I,I,I,I,I,I] HT_.out ?_
       refine iZ (gD HT_.out (by kernel_rfl)) ?_
       try go_wp2
       go_ret
       exact ⟨by first|rfl|(simp [bg,bA] <;> rfl)|(simp [*,bg,bA] <;> rfl),hb_⟩
      ·rw [if_neg c8] at H
       have c8b0 : decide (40000 < (wrap64 (Co + (wrap64 ((wrap64 (10 + (((aG Bw Bz).f0).size : Int))) + Cm))))) = false:=decide_eq_false c8
       clear c8
       have H':=Aside0.mk H
       clear H
       have Ct : 0 ≤ (Bz : Int):=of_decide_eq_true (by first|(with_reducible assumption)|assumption)
       have Cu : Bz < (Bw.length : Int):=of_decide_eq_true (by first|(with_reducible assumption)|assumption)
       obtain ⟨BZ,BJ,BK,e215,BN,BO,BP,BQ,BR,BS,BU,Cc,Ce⟩:=kT Dk.out Bz Ct Cu
       cases e215
       replace BN:=(HB.out.cell (World.block_lt_of_cell? w _ BN)).trans BN
       replace BO:=(HB.out.cell (World.block_lt_of_cell? w _ BO)).trans BO
       replace BP:=(HB.out.cell (World.block_lt_of_cell? w _ BP)).trans BP
       replace BQ:=(HB.out.cell (World.block_lt_of_cell? w _ BQ)).trans BQ
       replace BR:=(HB.out.cell (World.block_lt_of_cell? w _ BR)).trans BR
       replace BS:=(HB.out.cell (World.block_lt_of_cell? w _ BS)).trans BS
       replace BU:=(HB.out.cell (World.block_lt_of_cell? w _ BU)).trans BU
       have Cq:=Aside0.mk Ce
       have Cr:=Aside0.mk Cc
       clear Ce Cc
       replace Ct:=eq_true Ct
       replace Cu:=eq_true Cu
       try go_wp2_with (first|((with_reducible refine bN (N:=5) rfl ?_);refine bT ?hg (N:=5) ?hd (cs:=#[.string (⟨#[]⟩ : ByteArray),.string (⟨#[]⟩ : ByteArray),.string (⟨#[]⟩ : ByteArray),.int .i64 0,.int .i64 0,.bool false,.slice none 0 0]) (t:=79) ?hr ?_;(case hd=>rfl);(case hg=>rfl);(case hr=>first|(go_simp;done)|(go_simp;rfl));intro BF hg CW hbox hb;have Cg:=Aside0.mk (aJ (g:=BL) (o:=.cells #[.int .u64 Ca,.slice (some BZ) Bw.length Cb] 51 (0,0)) (bk_ BI.out) hb);have Ch:=Aside0.mk (aN hb_ hb);have Ci:=Aside0.mk (hbox);have Dl:=Aside0.mk ((by rw [hg];exact (aR hb_) : w.heap.size ≤ BF));have Dv:=Aside0.mk ((by rw [hg];exact (aR hb_) : w.heap.size ≤ BF));have Dw:=Aside0.mk ((by rw [hg];exact Nat.ne_of_lt (aW (g:=BL) (o:=.cells #[.int .u64 Ca,.slice (some BZ) Bw.length Cb] 51 (0,0)) (bk_ BI.out)) : BL ≠ BF));have Dx:=Aside0.mk ((by rw [hg];exact Nat.ne_of_gt (aW (g:=BL) (o:=.cells #[.int .u64 Ca,.slice (some BZ) Bw.length Cb] 51 (0,0)) (bk_ BI.out)) : BF ≠ BL));clear BI;clear HB;have BI:=Cg;have HB:=Ch;have BG:=Ci;have Dy:=Dl;have Dz:=Dv;have BH:=Dw;have Cj:=Dx;clear Cg Ch Ci Dl Dv Dw Dx;clear hb hbox hg;have EA:=Cj.out;have EB:=BH.out;have Eb : CW.cell? ⟨BF,0,none⟩ = some (.string (⟨#[]⟩ : ByteArray)):=(ah BG.out 0).trans rfl;have Ec : CW.cell? ⟨BF,1,none⟩ = some (.string (⟨#[]⟩ : ByteArray)):=(ah BG.out 1).trans rfl;have Ed : CW.cell? ⟨BF,2,none⟩ = some (.string (⟨#[]⟩ : ByteArray)):=(ah BG.out 2).trans rfl;have Ee : CW.cell? ⟨BF,3,none⟩ = some (.int .i64 0):=(ah BG.out 3).trans rfl;have Ef : CW.cell? ⟨BF,4,none⟩ = some (.int .i64 0):=(ah BG.out 4).trans rfl;have Eh : CW.cell? ⟨BF,5,none⟩ = some (.bool false):=(ah BG.out 5).trans rfl;have Ei : CW.cell? ⟨BF,6,none⟩ = some (.slice none 0 0):=(ah BG.out 6).trans rfl;have Ej:=av BG.out 0;have El:=av BG.out 1;have Em:=av BG.out 2;have En:=av BG.out 3;have Eo:=av BG.out 4;have Ep:=av BG.out 5;have Er:=av BG.out 6))
       have Cg : Aside0 ((((((((CW.setCell ⟨BF,0,none⟩ (.string ((aG Bw Bz).f0))).setCell ⟨BF,1,none⟩ (.string ((aG Bw Bz).f1.f0))).setCell ⟨BF,2,none⟩ (.string ((aG Bw Bz).f1.f1))).setCell ⟨BF,3,none⟩ (.int .i64 ((aG Bw Bz).f1.f2))).setCell ⟨BF,4,none⟩ (.int .i64 ((aG Bw Bz).f1.f3))).setCell ⟨BF,5,none⟩ (.bool ((aG Bw Bz).f1.f4))).setCell ⟨BF,6,none⟩ (.slice BJ ((aG Bw Bz).f1.f5).length BK)).heap[BL]? = some (.cells #[.int .u64 Ca,.slice (some BZ) Bw.length Cb] 51 (0,0))):=⟨by (with_reducible repeat (first|apply aj|apply ay|apply ak));refine aD ?_ BH.out _;(with_reducible repeat (first|apply aj|apply ay|apply ak));refine aD ?_ BH.out _;(with_reducible repeat (first|apply aj|apply ay|apply ak));refine aD ?_ BH.out _;(with_reducible repeat (first|apply aj|apply ay|apply ak));refine aD ?_ BH.out _;(with_reducible repeat (first|apply aj|apply ay|apply ak));refine aD ?_ BH.out _;(with_reducible repeat (first|apply aj|apply ay|apply ak));refine aD ?_ BH.out _;(with_reducible repeat (first|apply aj|apply ay|apply ak));refine aD ?_ BH.out _;(with_reducible repeat (first|apply aj|apply ay|apply ak));exact BI.out⟩
       have Ch : Aside0 ((((((((CW.setCell ⟨BF,0,none⟩ (.string ((aG Bw Bz).f0))).setCell ⟨BF,1,none⟩ (.string ((aG Bw Bz).f1.f0))).setCell ⟨BF,2,none⟩ (.string ((aG Bw Bz).f1.f1))).setCell ⟨BF,3,none⟩ (.int .i64 ((aG Bw Bz).f1.f2))).setCell ⟨BF,4,none⟩ (.int .i64 ((aG Bw Bz).f1.f3))).setCell ⟨BF,5,none⟩ (.bool ((aG Bw Bz).f1.f4))).setCell ⟨BF,6,none⟩ (.slice BJ ((aG Bw Bz).f1.f5).length BK)).heap[BF]? = some (.cells #[.string ((aG Bw Bz).f0),.string ((aG Bw Bz).f1.f0),.string ((aG Bw Bz).f1.f1),.int .i64 ((aG Bw Bz).f1.f2),.int .i64 ((aG Bw Bz).f1.f3),.bool ((aG Bw Bz).f1.f4),.slice BJ ((aG Bw Bz).f1.f5).length BK] 79 (0,0))):=⟨by (with_reducible repeat (first|apply aj|apply ay|apply ak));refine aQ (cs:=#[.string ((aG Bw Bz).f0),.string ((aG Bw Bz).f1.f0),.string ((aG Bw Bz).f1.f1),.int .i64 ((aG Bw Bz).f1.f2),.int .i64 ((aG Bw Bz).f1.f3),.bool ((aG Bw Bz).f1.f4),.slice none 0 0]) ?_ 6 _ rfl;(with_reducible repeat (first|apply aj|apply ay|apply ak));refine aQ (cs:=#[.string ((aG Bw Bz).f0),.string ((aG Bw Bz).f1.f0),.string ((aG Bw Bz).f1.f1),.int .i64 ((aG Bw Bz).f1.f2),.int .i64 ((aG Bw Bz).f1.f3),.bool false,.slice none 0 0]) ?_ 5 _ rfl;(with_reducible repeat (first|apply aj|apply ay|apply ak));refine aQ (cs:=#[.string ((aG Bw Bz).f0),.string ((aG Bw Bz).f1.f0),.string ((aG Bw Bz).f1.f1),.int .i64 ((aG Bw Bz).f1.f2),.int .i64 0,.bool false,.slice none 0 0]) ?_ 4 _ rfl;(with_reducible repeat (first|apply aj|apply ay|apply ak));refine aQ (cs:=#[.string ((aG Bw Bz).f0),.string ((aG Bw Bz).f1.f0),.string ((aG Bw Bz).f1.f1),.int .i64 0,.int .i64 0,.bool false,.slice none 0 0]) ?_ 3 _ rfl;(with_reducible repeat (first|apply aj|apply ay|apply ak));refine aQ (cs:=#[.string ((aG Bw Bz).f0),.string ((aG Bw Bz).f1.f0),.string (⟨#[]⟩ : ByteArray),.int .i64 0,.int .i64 0,.bool false,.slice none 0 0]) ?_ 2 _ rfl;(with_reducible repeat (first|apply aj|apply ay|apply ak));refine aQ (cs:=#[.string ((aG Bw Bz).f0),.string (⟨#[]⟩ : ByteArray),.string (⟨#[]⟩ : ByteArray),.int .i64 0,.int .i64 0,.bool false,.slice none 0 0]) ?_ 1 _ rfl;(with_reducible repeat (first|apply aj|apply ay|apply ak));refine aQ (cs:=#[.string (⟨#[]⟩ : ByteArray),.string (⟨#[]⟩ : ByteArray),.string (⟨#[]⟩ : ByteArray),.int .i64 0,.int .i64 0,.bool false,.slice none 0 0]) ?_ 0 _ rfl;(with_reducible repeat (first|apply aj|apply ay|apply ak));exact BG.out⟩
       have Ci : Aside0 (Below w.heap.size w (((((((CW.setCell ⟨BF,0,none⟩ (.string ((aG Bw Bz).f0))).setCell ⟨BF,1,none⟩ (.string ((aG Bw Bz).f1.f0))).setCell ⟨BF,2,none⟩ (.string ((aG Bw Bz).f1.f1))).setCell ⟨BF,3,none⟩ (.int .i64 ((aG Bw Bz).f1.f2))).setCell ⟨BF,4,none⟩ (.int .i64 ((aG Bw Bz).f1.f3))).setCell ⟨BF,5,none⟩ (.bool ((aG Bw Bz).f1.f4))).setCell ⟨BF,6,none⟩ (.slice BJ ((aG Bw Bz).f1.f5).length BK))):=⟨hb_⟩
       (try clear BI)
       (try clear BG)
       (try clear HB)
       generalize (((((((CW.setCell ⟨BF,0,none⟩ (.string ((aG Bw Bz).f0))).setCell ⟨BF,1,none⟩ (.string ((aG Bw Bz).f1.f0))).setCell ⟨BF,2,none⟩ (.string ((aG Bw Bz).f1.f1))).setCell ⟨BF,3,none⟩ (.int .i64 ((aG Bw Bz).f1.f2))).setCell ⟨BF,4,none⟩ (.int .i64 ((aG Bw Bz).f1.f3))).setCell ⟨BF,5,none⟩ (.bool ((aG Bw Bz).f1.f4))).setCell ⟨BF,6,none⟩ (.slice BJ ((aG Bw Bz).f1.f5).length BK)) = EL at Cg Ch Ci ⊢
       have BI:=Cg
       have BG:=Ch
       have HB:=Ci
       clear Cg Ch Ci
       have Cg:=Aside0.mk (ay BI.out)
       have Ch:=Aside0.mk (ay BG.out)
       have Ci:=Aside0.mk (bL HB.out)
       clear BI
       clear BG
       clear HB
       have BI:=Cg
       have BG:=Ch
       have HB:=Ci
       clear Cg Ch Ci
       refine gZ (n:=11) (S:=fun w'=>w'.cell? ⟨BF,0,none⟩ = some (.string ((aG Bw Bz).f0)) ∧ w'.cell? ⟨BF,1,none⟩ = some (.string ((aG Bw Bz).f1.f0)) ∧ w'.cell? ⟨BF,2,none⟩ = some (.string ((aG Bw Bz).f1.f1)) ∧ w'.cell? ⟨BF,3,none⟩ = some (.int .i64 ((aG Bw Bz).f1.f2)) ∧ w'.cell? ⟨BF,4,none⟩ = some (.int .i64 ((aG Bw Bz).f1.f3)) ∧ w'.cell? ⟨BF,5,none⟩ = some (.bool ((aG Bw Bz).f1.f4)) ∧ w'.cell? ⟨BF,6,none⟩ = some (.slice BJ ((aG Bw Bz).f1.f5).length BK)) (ds:=[]) #[O,O,O,O,O,O,O,O,O,O,O] (by kernel_rfl) rfl rfl ⟨(ah BG.out 0).trans rfl,(ah BG.out 1).trans rfl,(ah BG.out 2).trans rfl,(ah BG.out 3).trans rfl,(ah BG.out 4).trans rfl,(ah BG.out 5).trans rfl,(ah BG.out 6).trans rfl⟩ (fun hHeld=>?_);refine eY aX.qB aX.mK (fun HT_ HW_=>?_)
       generalize EL.drew = EO at BI BG HB hHeld ⊢
       refine pu_ 0 13 #[I,O,O,O,O,O,O,O,O,O,O] HT_.out ?_
       refine pu_ 1 14 #[I,I,O,O,O,O,O,O,O,O,O] HT_.out ?_
       refine pu_ 5 18 #[I,I,O,O,O,I,O,O,O,O,O] HT_.out ?_
       refine ta_ 2 15 #[I,I,I,O,O,I,O,O,O,O,O] HT_.out HW_.out hHeld ?_
       refine pu_ 3 16 #[I,I,I,I,O,I,O,O,O,O,O] HT_.out ?_
       refine pu_ 4 17 #[I,I,I,I,I,I,O,O,O,O,O] HT_.out ?_
       refine ta_ 6 19 #[I,I,I,I,I,I,I,O,O,O,O] HT_.out HW_.out hHeld ?_
       refine fU (i:=7) (N:=some 20) #[I,I,I,I,I,I,I,I,O,O,O] rfl rfl (cO HT_.out (by kernel_rfl)) (by decide) (fun K hK=>?_)
       refine eU Tryz.func37 (by kernel_rfl) rfl #[.agg #[.string ((aG Bw Bz).f1.f0),.string ((aG Bw Bz).f1.f1),.int .i64 ((aG Bw Bz).f1.f2),.int .i64 ((aG Bw Bz).f1.f3),.bool ((aG Bw Bz).f1.f4),.slice BJ ((aG Bw Bz).f1.f5).length BK]] (by rfl) rfl rfl (by (try simp only [List.map_toArray,List.map_cons,List.map_nil]);first|done|rfl|(simp only [List.length_drop,List.length_take];rfl)) ?_
       with_reducible refine (aT.calls k1 ((aG Bw Bz).f1.f0) ((aG Bw Bz).f1.f1) ((aG Bw Bz).f1.f2) ((aG Bw Bz).f1.f3) ((aG Bw Bz).f1.f4) _ _ ((aG Bw Bz).f1.f5) Cm _ ?CU ?CV A7.out).mono ?_
       (case CU=>repeat (first|exact (Kd.bJ Cq.out HB.out)|(with_reducible refine Kd.bH ?_ _)|(with_reducible refine Kd.bX ?_ _)|(with_reducible refine Kd.dA ?_)))
       (case CV=>exact Cr.out)
       rintro e EP ⟨rfl,hb⟩
       refine ⟨_,rfl,?_⟩
       have Cg:=Aside0.mk (aJ (g:=BL) (o:=.cells #[.int .u64 Ca,.slice (some BZ) Bw.length Cb] 51 (0,0)) (bk_ BI.out) hb)
       have Ch:=Aside0.mk (aJ (g:=BF) (o:=.cells #[.string ((aG Bw Bz).f0),.string ((aG Bw Bz).f1.f0),.string ((aG Bw Bz).f1.f1),.int .i64 ((aG Bw Bz).f1.f2),.int .i64 ((aG Bw Bz).f1.f3),.bool ((aG Bw Bz).f1.f4),.slice BJ ((aG Bw Bz).f1.f5).length BK] 79 (0,0)) (bk_ BG.out) hb)
       have Ci:=Aside0.mk (aN hb_ hb)
       clear BI
       clear BG
       clear HB
       have BI:=Cg
       have BG:=Ch
       have HB:=Ci
       clear Cg Ch Ci
       (try clear hb)
       (try clear hb2)
       (try clear hk)
       (try clear hi)
       refine hK.out _ _ ⟨(ah BG.out 0).trans rfl,(ah BG.out 1).trans rfl,(ah BG.out 2).trans rfl,(ah BG.out 3).trans rfl,(ah BG.out 4).trans rfl,(ah BG.out 5).trans rfl,(ah BG.out 6).trans rfl⟩ (fun hHeld=>?_)
       clear hK K
       refine dX (a':=?_) ?_ ?_
       rotate_left
       ·show Act.put _ (some 20) _ = _
        simp only [Act.put,List.setIfInBounds_toArray,List.set_cons_zero,List.set_cons_succ,bO,bR]
        rfl
       refine pu_ 8 21 #[I,I,I,I,I,I,I,I,I,O,O] HT_.out ?_
       refine pu_ 9 22 #[I,I,I,I,I,I,I,I,I,I,O] HT_.out ?_
       refine pu_ 10 3 #[I,I,I,I,I,I,I,I,I,I,I] HT_.out ?_
       refine iZ (gD HT_.out (by kernel_rfl)) ?_
       try go_wp2
       go_roundg k1
       case measure=>have:=CS.out;omega
       case rel=>exact ⟨(wrap64 (Co + (wrap64 ((wrap64 (10 + (((aG Bw Bz).f0).size : Int))) + Cm)))),(wrap64 (Bz + 1)),(by first|rfl|(simp;done)|(simp [*];done)),(by first|rfl|(simp;done)|(simp [*];done)),H',⟨by have:=CS.out;omega⟩,⟨by (with_reducible repeat (first|apply aj|apply ay|apply ak));exact BI.out⟩,⟨hb_⟩⟩
     ·rw [if_neg c6] at H
      exact absurd H (by simp)
    ·rw [if_neg c5] at H
     exact absurd H (by simp)
   ·rw [if_neg c4] at H
    have c4b0 : decide (Bz < (Bw.length : Int)) = false:=decide_eq_false c4
    clear c4
    obtain rfl:=Option.some.inj H
    go_wp2
    go_ret
    exact ⟨by first|rfl|(simp [bg,bA] <;> rfl)|(simp [*,bg,bA] <;> rfl),hb_⟩
def aV.l0 : Nat → List ByteArray → List ByteArray → Int → Int → Option (Bool)
 | 0,_,_,_,_=>none
 | k + 1,x0,x1,Dm,Ck=>if Ck < Dm then (if 0 ≤ Ck then (if Ck < (x0.length : Int) then (if Ck < (x1.length : Int) then (if (jV ByteArray.empty x0 Ck).toList = (jV ByteArray.empty x1 Ck).toList then (aV.l0 k x0 x1 Dm (wrap64 (Ck + 1))) else (some false)) else (none)) else (none)) else (none)) else (some true)
def aV.f (k : Nat) (l0 : List ByteArray) (l1 : List ByteArray) : Option (Bool):=if (l0.length : Int) = (l1.length : Int) then (aV.l0 k l0 l1 (l0.length : Int) 0) else (some false)
theorem aV.eB : ∀ k,(∀ y0 y1 y2 y3,LeO (aV.l0 k y0 y1 y2 y3) (aV.l0 (k + 1) y0 y1 y2 y3))
 | 0=>fun _ _ _ _ r h=>by simp [aV.l0] at h
 | k + 1=>by
  have Cn:=aV.eB k
  ·intro y0 y1 y2 y3
   unfold aV.l0
   repeat' first
   | (with_reducible exact Cn _ _ _ _)
   | (with_reducible exact LeO.refl _)
   | (with_reducible exact LeO.none _)
   | (with_reducible refine LeO.ite ?_ ?_)
   | (with_reducible refine LeO.bind ?_ (fun _=>?_))
   | exact Cn _ _ _ _
   | exact LeO.none _
   | refine LeO.ite ?_ ?_
   | refine LeO.bind ?_ (fun _=>?_)
theorem aV.mono : ∀ a0 a1 k,LeO (aV.f k a0 a1) (aV.f (k + 1) a0 a1):=by
 intro a0 a1 k
 have Cn:=aV.eB k
 unfold aV.f
 repeat' first
   | (with_reducible exact Cn _ _ _ _)
   | (with_reducible exact LeO.refl _)
   | (with_reducible exact LeO.none _)
   | (with_reducible refine LeO.ite ?_ ?_)
   | (with_reducible refine LeO.bind ?_ (fun _=>?_))
   | exact Cn _ _ _ _
   | exact LeO.none _
   | refine LeO.ite ?_ ?_
   | refine LeO.bind ?_ (fun _=>?_)
set_option maxHeartbeats 8000000 in
set_option maxRecDepth 100000 in
theorem aV.calls (k : Nat) (A0 : Option Addr) (c0 : Nat) (l0 : List ByteArray) (A1 : Option Addr) (c1 : Nat) (l1 : List ByteArray) (r : Bool) (w : World) (hr0 : Kd.C Kd.string w A0 l0.length l0) (hc0 : l0.length ≤ c0) (hr1 : Kd.C Kd.string w A1 l1.length l1) (hc1 : l1.length ≤ c1) (h : aV.f k l0 l1 = some r) :
  Calls Tryz.prog 109 #[.slice A0 l0.length c0,.slice A1 l1.length c1] w fun e w'=>e = .returned (.bool r) ∧ Drawn0 w w':=by
 have Dn:=Aside0.mk hr0
 have EC:=Aside0.mk hc0
 clear hr0 hc0
 have HR1:=Aside0.mk hr1
 have ED:=Aside0.mk hc1
 clear hr1 hc1
 have H : (if (l0.length : Int) = (l1.length : Int) then (aV.l0 k l0 l1 (l0.length : Int) 0) else (some false)) = some r:=h
 clear h
 by_cases c3 : (l0.length : Int) = (l1.length : Int)
 ·rw [if_pos c3] at H
  have c3b0 : ((l0.length : Int) == (l1.length : Int)) = true:=beq_iff_eq.mpr c3
  have c3b1 : ((l0.length : Int) != (l1.length : Int)) = false:=bne_eq_false_iff_eq.mpr c3
  have c3b2 : (l0.length == l1.length) = true:=by first|simpa using c3|(simp at c3 ⊢;omega)
  clear c3
  have H':=Aside0.mk H
  clear H
  go_enter Tryz.func109,Tryz.ntmps109
  go_wp2
  repeat (go_quiet (fail);try go_wp2)
  go_loopg [13] k (fun kq v13 w'=>∃ (BD : Int),v13 = .int .i64 BD ∧ Aside0 (aV.l0 kq l0 l1 (l0.length : Int) BD = some r) ∧ Aside0 (kq ≤ k) ∧ Drawn0 w w')
  case atStart=>exact ⟨(0),(by first|rfl|(simp;done)|(simp [*];done)),H',⟨Nat.le_refl _⟩,by repeat (first|exact Drawn0.refl _|apply Drawn0.step)⟩
  case round =>
   clear H'
   try clear c1
   try clear p2
   try clear c3
   try clear c3b0
   try clear c3b1
   try clear c3b2
   obtain ⟨BD,rfl,HA,CS,⟨m1,rfl⟩⟩:=hrel
   cases gk with
   | zero=>exact absurd HA.out (by simp [aV.l0])
   | succ k1 =>
    have H:=HA.out
    clear HA
    simp only [aV.l0] at H
    by_cases c4 : BD < (l0.length : Int)
    ·rw [if_pos c4] at H
     have c4b0 : decide (BD < (l0.length : Int)) = true:=decide_eq_true c4
     clear c4
     by_cases c5 : 0 ≤ BD
     ·rw [if_pos c5] at H
      have c5b0 : decide (0 ≤ BD) = true:=decide_eq_true c5
      clear c5
      by_cases c6 : BD < (l0.length : Int)
      ·rw [if_pos c6] at H
       have c6b0 : decide (BD < (l0.length : Int)) = true:=decide_eq_true c6
       clear c6
       by_cases c7 : BD < (l1.length : Int)
       ·rw [if_pos c7] at H
        have c7b0 : decide (BD < (l1.length : Int)) = true:=decide_eq_true c7
        clear c7
        by_cases c8 : (jV ByteArray.empty l0 BD).toList = (jV ByteArray.empty l1 BD).toList
        ·rw [if_pos c8] at H
         have c8b0 : ((jV ByteArray.empty l0 BD).toList == (jV ByteArray.empty l1 BD).toList) = true:=beq_iff_eq.mpr c8
         have c8b1 : ((jV ByteArray.empty l0 BD).toList != (jV ByteArray.empty l1 BD).toList) = false:=bne_eq_false_iff_eq.mpr c8
         clear c8
         have H':=Aside0.mk H
         clear H
         have Cv : 0 ≤ (BD : Int):=of_decide_eq_true (by first|(with_reducible assumption)|assumption)
         have Cw : BD < (l0.length : Int):=of_decide_eq_true (by first|(with_reducible assumption)|assumption)
         obtain ⟨DF,Du,CX⟩:=Kd.jY Dn.out BD Cv Cw
         cases Du
         replace Cv:=eq_true Cv
         replace Cw:=eq_true Cw
         have Cx : 0 ≤ (BD : Int):=of_decide_eq_true (by first|(with_reducible assumption)|assumption)
         have Cy : BD < (l1.length : Int):=of_decide_eq_true (by first|(with_reducible assumption)|assumption)
         obtain ⟨DI,e219,CY⟩:=Kd.jY HR1.out BD Cx Cy
         cases e219
         replace Cx:=eq_true Cx
         replace Cy:=eq_true Cy
         go_wp2
         repeat (go_quiet (fail);try go_wp2)
         go_roundg k1
         case measure=>have:=CS.out;omega
         case rel=>exact ⟨(wrap64 (BD + 1)),(by first|rfl|(simp;done)|(simp [*];done)),H',⟨by have:=CS.out;omega⟩,by repeat (first|exact Drawn0.refl _|apply Drawn0.step)⟩
        ·rw [if_neg c8] at H
         have c8b0 : ((jV ByteArray.empty l0 BD).toList == (jV ByteArray.empty l1 BD).toList) = false:=beq_eq_false_iff_ne.mpr c8
         have c8b1 : ((jV ByteArray.empty l0 BD).toList != (jV ByteArray.empty l1 BD).toList) = true:=bne_iff_ne.mpr c8
         obtain rfl:=Option.some.inj H
         have Cv : 0 ≤ (BD : Int):=of_decide_eq_true (by first|(with_reducible assumption)|assumption)
         have Cw : BD < (l0.length : Int):=of_decide_eq_true (by first|(with_reducible assumption)|assumption)
         obtain ⟨DF,Du,CX⟩:=Kd.jY Dn.out BD Cv Cw
         cases Du
         replace Cv:=eq_true Cv
         replace Cw:=eq_true Cw
         have Cx : 0 ≤ (BD : Int):=of_decide_eq_true (by first|(with_reducible assumption)|assumption)
         have Cy : BD < (l1.length : Int):=of_decide_eq_true (by first|(with_reducible assumption)|assumption)
         obtain ⟨DI,e219,CY⟩:=Kd.jY HR1.out BD Cx Cy
         cases e219
         replace Cx:=eq_true Cx
         replace Cy:=eq_true Cy
         go_wp2
         repeat (go_quiet (fail);try go_wp2)
         go_ret
         exact ⟨by first|rfl|(simp;done)|(simp [*];done),by repeat (first|exact Drawn0.refl _|apply Drawn0.step)⟩
       ·rw [if_neg c7] at H
        exact absurd H (by simp)
      ·rw [if_neg c6] at H
       exact absurd H (by simp)
     ·rw [if_neg c5] at H
      exact absurd H (by simp)
    ·rw [if_neg c4] at H
     have c4b0 : decide (BD < (l0.length : Int)) = false:=decide_eq_false c4
     clear c4
     obtain rfl:=Option.some.inj H
     go_wp2
     repeat (go_quiet (fail);try go_wp2)
     go_ret
     exact ⟨by first|rfl|(simp;done)|(simp [*];done),by repeat (first|exact Drawn0.refl _|apply Drawn0.step)⟩
 ·rw [if_neg c3] at H
  have c3b0 : ((l0.length : Int) == (l1.length : Int)) = false:=beq_eq_false_iff_ne.mpr c3
  have c3b1 : ((l0.length : Int) != (l1.length : Int)) = true:=bne_iff_ne.mpr c3
  have c3b2 : (l0.length == l1.length) = false:=by first|simpa using c3|(simp at c3 ⊢;omega)
  obtain rfl:=Option.some.inj H
  go_enter Tryz.func109,Tryz.ntmps109
  go_wp2
  repeat (go_quiet (fail);try go_wp2)
  go_ret
  exact ⟨by first|rfl|(simp;done)|(simp [*];done),by repeat (first|exact Drawn0.refl _|apply Drawn0.step)⟩
def dF.l0 : Nat → List (S126) → List (S126) → Int → Int → Option (Bool)
 | 0,_,_,_,_=>none
 | k + 1,x0,x1,Dm,Ck=>if Ck < Dm then (if 0 ≤ Ck then (if Ck < (x0.length : Int) then (if Ck < (x1.length : Int) then (if (!(((gu x0 Ck).f0) == ((gu x1 Ck).f0)) || (!(((gu x0 Ck).f1) == ((gu x1 Ck).f1)))) = true then (some false) else (dF.l0 k x0 x1 Dm (wrap64 (Ck + 1)))) else (none)) else (none)) else (none)) else (some true)
def dF.f (k : Nat) (l0 : List (S126)) (l1 : List (S126)) : Option (Bool):=if (l0.length : Int) = (l1.length : Int) then (dF.l0 k l0 l1 (l0.length : Int) 0) else (some false)
theorem dF.eB : ∀ k,(∀ y0 y1 y2 y3,LeO (dF.l0 k y0 y1 y2 y3) (dF.l0 (k + 1) y0 y1 y2 y3))
 | 0=>fun _ _ _ _ r h=>by simp [dF.l0] at h
 | k + 1=>by
  have Cn:=dF.eB k
  ·intro y0 y1 y2 y3
   unfold dF.l0
   repeat' first
   | (with_reducible exact Cn _ _ _ _)
   | (with_reducible exact LeO.refl _)
   | (with_reducible exact LeO.none _)
   | (with_reducible refine LeO.ite ?_ ?_)
   | (with_reducible refine LeO.bind ?_ (fun _=>?_))
   | exact Cn _ _ _ _
   | exact LeO.none _
   | refine LeO.ite ?_ ?_
   | refine LeO.bind ?_ (fun _=>?_)
theorem dF.mono : ∀ a0 a1 k,LeO (dF.f k a0 a1) (dF.f (k + 1) a0 a1):=by
 intro a0 a1 k
 have Cn:=dF.eB k
 unfold dF.f
 repeat' first
   | (with_reducible exact Cn _ _ _ _)
   | (with_reducible exact LeO.refl _)
   | (with_reducible exact LeO.none _)
   | (with_reducible refine LeO.ite ?_ ?_)
   | (with_reducible refine LeO.bind ?_ (fun _=>?_))
   | exact Cn _ _ _ _
   | exact LeO.none _
   | refine LeO.ite ?_ ?_
   | refine LeO.bind ?_ (fun _=>?_)
set_option maxHeartbeats 8000000 in
set_option maxRecDepth 100000 in
theorem dF.calls (k : Nat) (A0 : Option Addr) (c0 : Nat) (l0 : List (S126)) (A1 : Option Addr) (c1 : Nat) (l1 : List (S126)) (r : Bool) (w : World) (hr0 : Kd.C jG w A0 l0.length l0) (hc0 : l0.length ≤ c0) (hr1 : Kd.C jG w A1 l1.length l1) (hc1 : l1.length ≤ c1) (h : dF.f k l0 l1 = some r) :
  Calls Tryz.prog 110 #[.slice A0 l0.length c0,.slice A1 l1.length c1] w fun e w'=>e = .returned (.bool r) ∧ Drawn0 w w':=by
 have EF:=Tryz.underlying126
 have Dn:=Aside0.mk hr0
 have EC:=Aside0.mk hc0
 clear hr0 hc0
 have HR1:=Aside0.mk hr1
 have ED:=Aside0.mk hc1
 clear hr1 hc1
 have H : (if (l0.length : Int) = (l1.length : Int) then (dF.l0 k l0 l1 (l0.length : Int) 0) else (some false)) = some r:=h
 clear h
 by_cases c3 : (l0.length : Int) = (l1.length : Int)
 ·rw [if_pos c3] at H
  have c3b0 : ((l0.length : Int) == (l1.length : Int)) = true:=beq_iff_eq.mpr c3
  have c3b1 : ((l0.length : Int) != (l1.length : Int)) = false:=bne_eq_false_iff_eq.mpr c3
  have c3b2 : (l0.length == l1.length) = true:=by first|simpa using c3|(simp at c3 ⊢;omega)
  clear c3
  have H':=Aside0.mk H
  clear H
  go_enter Tryz.func110,Tryz.ntmps110
  go_wp2
  repeat (go_quiet (fail);try go_wp2)
  go_loopg [13] k (fun kq v13 w'=>∃ (BD : Int),v13 = .int .i64 BD ∧ Aside0 (dF.l0 kq l0 l1 (l0.length : Int) BD = some r) ∧ Aside0 (kq ≤ k) ∧ Drawn0 w w')
  case atStart=>exact ⟨(0),(by first|rfl|(simp;done)|(simp [*];done)),H',⟨Nat.le_refl _⟩,by repeat (first|exact Drawn0.refl _|apply Drawn0.step)⟩
  case round =>
   clear H'
   try clear c1
   try clear p2
   try clear c3
   try clear c3b0
   try clear c3b1
   try clear c3b2
   obtain ⟨BD,rfl,HA,CS,⟨m1,rfl⟩⟩:=hrel
   cases gk with
   | zero=>exact absurd HA.out (by simp [dF.l0])
   | succ k1 =>
    have H:=HA.out
    clear HA
    simp only [dF.l0] at H
    by_cases c4 : BD < (l0.length : Int)
    ·rw [if_pos c4] at H
     have c4b0 : decide (BD < (l0.length : Int)) = true:=decide_eq_true c4
     clear c4
     by_cases c5 : 0 ≤ BD
     ·rw [if_pos c5] at H
      have c5b0 : decide (0 ≤ BD) = true:=decide_eq_true c5
      clear c5
      by_cases c6 : BD < (l0.length : Int)
      ·rw [if_pos c6] at H
       have c6b0 : decide (BD < (l0.length : Int)) = true:=decide_eq_true c6
       clear c6
       by_cases c7 : BD < (l1.length : Int)
       ·rw [if_pos c7] at H
        have c7b0 : decide (BD < (l1.length : Int)) = true:=decide_eq_true c7
        clear c7
        by_cases c8 : (!(((gu l0 BD).f0) == ((gu l1 BD).f0)) || (!(((gu l0 BD).f1) == ((gu l1 BD).f1)))) = true
        ·rw [if_pos c8] at H
         have c8b0 : (!(((gu l0 BD).f0) == ((gu l1 BD).f0)) || (!(((gu l0 BD).f1) == ((gu l1 BD).f1)))) = true:=c8
         clear c8
         obtain rfl:=Option.some.inj H
         have Cz : 0 ≤ (BD : Int):=of_decide_eq_true (by first|(with_reducible assumption)|assumption)
         have CB : BD < (l0.length : Int):=of_decide_eq_true (by first|(with_reducible assumption)|assumption)
         obtain ⟨DJ,e220,CZ,C8⟩:=mI Dn.out BD Cz CB
         cases e220
         replace Cz:=eq_true Cz
         replace CB:=eq_true CB
         have CF : 0 ≤ (BD : Int):=of_decide_eq_true (by first|(with_reducible assumption)|assumption)
         have CG : BD < (l1.length : Int):=of_decide_eq_true (by first|(with_reducible assumption)|assumption)
         obtain ⟨DK,e221,C9,Da⟩:=mI HR1.out BD CF CG
         cases e221
         replace CF:=eq_true CF
         replace CG:=eq_true CG
         go_wp2
         repeat (go_quiet (fail);try go_wp2)
         go_ret
         exact ⟨by first|rfl|(simp;done)|(simp [*];done),by repeat (first|exact Drawn0.refl _|apply Drawn0.step)⟩
        ·rw [if_neg c8] at H
         have c8b0 : (!(((gu l0 BD).f0) == ((gu l1 BD).f0)) || (!(((gu l0 BD).f1) == ((gu l1 BD).f1)))) = false:=by simpa using c8
         clear c8
         have H':=Aside0.mk H
         clear H
         have Cz : 0 ≤ (BD : Int):=of_decide_eq_true (by first|(with_reducible assumption)|assumption)
         have CB : BD < (l0.length : Int):=of_decide_eq_true (by first|(with_reducible assumption)|assumption)
         obtain ⟨DJ,e220,CZ,C8⟩:=mI Dn.out BD Cz CB
         cases e220
         replace Cz:=eq_true Cz
         replace CB:=eq_true CB
         have CF : 0 ≤ (BD : Int):=of_decide_eq_true (by first|(with_reducible assumption)|assumption)
         have CG : BD < (l1.length : Int):=of_decide_eq_true (by first|(with_reducible assumption)|assumption)
         obtain ⟨DK,e221,C9,Da⟩:=mI HR1.out BD CF CG
         cases e221
         replace CF:=eq_true CF
         replace CG:=eq_true CG
         go_wp2
         repeat (go_quiet (fail);try go_wp2)
         go_roundg k1
         case measure=>have:=CS.out;omega
         case rel=>exact ⟨(wrap64 (BD + 1)),(by first|rfl|(simp;done)|(simp [*];done)),H',⟨by have:=CS.out;omega⟩,by repeat (first|exact Drawn0.refl _|apply Drawn0.step)⟩
       ·rw [if_neg c7] at H
        exact absurd H (by simp)
      ·rw [if_neg c6] at H
       exact absurd H (by simp)
     ·rw [if_neg c5] at H
      exact absurd H (by simp)
    ·rw [if_neg c4] at H
     have c4b0 : decide (BD < (l0.length : Int)) = false:=decide_eq_false c4
     clear c4
     obtain rfl:=Option.some.inj H
     go_wp2
     repeat (go_quiet (fail);try go_wp2)
     go_ret
     exact ⟨by first|rfl|(simp;done)|(simp [*];done),by repeat (first|exact Drawn0.refl _|apply Drawn0.step)⟩
 ·rw [if_neg c3] at H
  have c3b0 : ((l0.length : Int) == (l1.length : Int)) = false:=beq_eq_false_iff_ne.mpr c3
  have c3b1 : ((l0.length : Int) != (l1.length : Int)) = true:=bne_iff_ne.mpr c3
  have c3b2 : (l0.length == l1.length) = false:=by first|simpa using c3|(simp at c3 ⊢;omega)
  obtain rfl:=Option.some.inj H
  go_enter Tryz.func110,Tryz.ntmps110
  go_wp2
  repeat (go_quiet (fail);try go_wp2)
  go_ret
  exact ⟨by first|rfl|(simp;done)|(simp [*];done),by repeat (first|exact Drawn0.refl _|apply Drawn0.step)⟩
def dO.l0 : Nat → List (S127) → List (S127) → Int → Int → Option (Bool)
 | 0,_,_,_,_=>none
 | k + 1,x0,x1,Dm,Ck=>if Ck < Dm then (if 0 ≤ Ck then (if Ck < (x0.length : Int) then (if Ck < (x1.length : Int) then (if (!((((fC x0 Ck).f0).toList) == (((fC x1 Ck).f0).toList)) || (!((((fC x0 Ck).f1).toList) == (((fC x1 Ck).f1).toList)))) = true then (some false) else (dO.l0 k x0 x1 Dm (wrap64 (Ck + 1)))) else (none)) else (none)) else (none)) else (some true)
def dO.f (k : Nat) (l0 : List (S127)) (l1 : List (S127)) : Option (Bool):=if (l0.length : Int) = (l1.length : Int) then (dO.l0 k l0 l1 (l0.length : Int) 0) else (some false)
theorem dO.eB : ∀ k,(∀ y0 y1 y2 y3,LeO (dO.l0 k y0 y1 y2 y3) (dO.l0 (k + 1) y0 y1 y2 y3))
 | 0=>fun _ _ _ _ r h=>by simp [dO.l0] at h
 | k + 1=>by
  have Cn:=dO.eB k
  ·intro y0 y1 y2 y3
   unfold dO.l0
   repeat' first
   | (with_reducible exact Cn _ _ _ _)
   | (with_reducible exact LeO.refl _)
   | (with_reducible exact LeO.none _)
   | (with_reducible refine LeO.ite ?_ ?_)
   | (with_reducible refine LeO.bind ?_ (fun _=>?_))
   | exact Cn _ _ _ _
   | exact LeO.none _
   | refine LeO.ite ?_ ?_
   | refine LeO.bind ?_ (fun _=>?_)
theorem dO.mono : ∀ a0 a1 k,LeO (dO.f k a0 a1) (dO.f (k + 1) a0 a1):=by
 intro a0 a1 k
 have Cn:=dO.eB k
 unfold dO.f
 repeat' first
   | (with_reducible exact Cn _ _ _ _)
   | (with_reducible exact LeO.refl _)
   | (with_reducible exact LeO.none _)
   | (with_reducible refine LeO.ite ?_ ?_)
   | (with_reducible refine LeO.bind ?_ (fun _=>?_))
   | exact Cn _ _ _ _
   | exact LeO.none _
   | refine LeO.ite ?_ ?_
   | refine LeO.bind ?_ (fun _=>?_)
set_option maxHeartbeats 8000000 in
set_option maxRecDepth 100000 in
theorem dO.calls (k : Nat) (A0 : Option Addr) (c0 : Nat) (l0 : List (S127)) (A1 : Option Addr) (c1 : Nat) (l1 : List (S127)) (r : Bool) (w : World) (hr0 : Kd.C jH w A0 l0.length l0) (hc0 : l0.length ≤ c0) (hr1 : Kd.C jH w A1 l1.length l1) (hc1 : l1.length ≤ c1) (h : dO.f k l0 l1 = some r) :
  Calls Tryz.prog 111 #[.slice A0 l0.length c0,.slice A1 l1.length c1] w fun e w'=>e = .returned (.bool r) ∧ Drawn0 w w':=by
 have EG:=Tryz.underlying127
 have Dn:=Aside0.mk hr0
 have EC:=Aside0.mk hc0
 clear hr0 hc0
 have HR1:=Aside0.mk hr1
 have ED:=Aside0.mk hc1
 clear hr1 hc1
 have H : (if (l0.length : Int) = (l1.length : Int) then (dO.l0 k l0 l1 (l0.length : Int) 0) else (some false)) = some r:=h
 clear h
 by_cases c3 : (l0.length : Int) = (l1.length : Int)
 ·rw [if_pos c3] at H
  have c3b0 : ((l0.length : Int) == (l1.length : Int)) = true:=beq_iff_eq.mpr c3
  have c3b1 : ((l0.length : Int) != (l1.length : Int)) = false:=bne_eq_false_iff_eq.mpr c3
  have c3b2 : (l0.length == l1.length) = true:=by first|simpa using c3|(simp at c3 ⊢;omega)
  clear c3
  have H':=Aside0.mk H
  clear H
  go_enter Tryz.func111,Tryz.ntmps111
  go_wp2
  repeat (go_quiet (fail);try go_wp2)
  go_loopg [13] k (fun kq v13 w'=>∃ (BD : Int),v13 = .int .i64 BD ∧ Aside0 (dO.l0 kq l0 l1 (l0.length : Int) BD = some r) ∧ Aside0 (kq ≤ k) ∧ Drawn0 w w')
  case atStart=>exact ⟨(0),(by first|rfl|(simp;done)|(simp [*];done)),H',⟨Nat.le_refl _⟩,by repeat (first|exact Drawn0.refl _|apply Drawn0.step)⟩
  case round =>
   clear H'
   try clear c1
   try clear p2
   try clear c3
   try clear c3b0
   try clear c3b1
   try clear c3b2
   obtain ⟨BD,rfl,HA,CS,⟨m1,rfl⟩⟩:=hrel
   cases gk with
   | zero=>exact absurd HA.out (by simp [dO.l0])
   | succ k1 =>
    have H:=HA.out
    clear HA
    simp only [dO.l0] at H
    by_cases c4 : BD < (l0.length : Int)
    ·rw [if_pos c4] at H
     have c4b0 : decide (BD < (l0.length : Int)) = true:=decide_eq_true c4
     clear c4
     by_cases c5 : 0 ≤ BD
     ·rw [if_pos c5] at H
      have c5b0 : decide (0 ≤ BD) = true:=decide_eq_true c5
      clear c5
      by_cases c6 : BD < (l0.length : Int)
      ·rw [if_pos c6] at H
       have c6b0 : decide (BD < (l0.length : Int)) = true:=decide_eq_true c6
       clear c6
       by_cases c7 : BD < (l1.length : Int)
       ·rw [if_pos c7] at H
        have c7b0 : decide (BD < (l1.length : Int)) = true:=decide_eq_true c7
        clear c7
        by_cases c8 : (!((((fC l0 BD).f0).toList) == (((fC l1 BD).f0).toList)) || (!((((fC l0 BD).f1).toList) == (((fC l1 BD).f1).toList)))) = true
        ·rw [if_pos c8] at H
         have c8b0 : (!((((fC l0 BD).f0).toList) == (((fC l1 BD).f0).toList)) || (!((((fC l0 BD).f1).toList) == (((fC l1 BD).f1).toList)))) = true:=c8
         clear c8
         obtain rfl:=Option.some.inj H
         have CJ : 0 ≤ (BD : Int):=of_decide_eq_true (by first|(with_reducible assumption)|assumption)
         have CK : BD < (l0.length : Int):=of_decide_eq_true (by first|(with_reducible assumption)|assumption)
         obtain ⟨DL,e222,Db,Dc⟩:=lJ Dn.out BD CJ CK
         cases e222
         replace CJ:=eq_true CJ
         replace CK:=eq_true CK
         have CO : 0 ≤ (BD : Int):=of_decide_eq_true (by first|(with_reducible assumption)|assumption)
         have CP : BD < (l1.length : Int):=of_decide_eq_true (by first|(with_reducible assumption)|assumption)
         obtain ⟨DN,e223,Df,Dh⟩:=lJ HR1.out BD CO CP
         cases e223
         replace CO:=eq_true CO
         replace CP:=eq_true CP
         go_wp2
         repeat (go_quiet (fail);try go_wp2)
         go_ret
         exact ⟨by first|rfl|(simp;done)|(simp [*];done),by repeat (first|exact Drawn0.refl _|apply Drawn0.step)⟩
        ·rw [if_neg c8] at H
         have c8b0 : (!((((fC l0 BD).f0).toList) == (((fC l1 BD).f0).toList)) || (!((((fC l0 BD).f1).toList) == (((fC l1 BD).f1).toList)))) = false:=by simpa using c8
         clear c8
         have H':=Aside0.mk H
         clear H
         have CJ : 0 ≤ (BD : Int):=of_decide_eq_true (by first|(with_reducible assumption)|assumption)
         have CK : BD < (l0.length : Int):=of_decide_eq_true (by first|(with_reducible assumption)|assumption)
         obtain ⟨DL,e222,Db,Dc⟩:=lJ Dn.out BD CJ CK
         cases e222
         replace CJ:=eq_true CJ
         replace CK:=eq_true CK
         have CO : 0 ≤ (BD : Int):=of_decide_eq_true (by first|(with_reducible assumption)|assumption)
         have CP : BD < (l1.length : Int):=of_decide_eq_true (by first|(with_reducible assumption)|assumption)
         obtain ⟨DN,e223,Df,Dh⟩:=lJ HR1.out BD CO CP
         cases e223
         replace CO:=eq_true CO
         replace CP:=eq_true CP
         go_wp2
         repeat (go_quiet (fail);try go_wp2)
         go_roundg k1
         case measure=>have:=CS.out;omega
         case rel=>exact ⟨(wrap64 (BD + 1)),(by first|rfl|(simp;done)|(simp [*];done)),H',⟨by have:=CS.out;omega⟩,by repeat (first|exact Drawn0.refl _|apply Drawn0.step)⟩
       ·rw [if_neg c7] at H
        exact absurd H (by simp)
      ·rw [if_neg c6] at H
       exact absurd H (by simp)
     ·rw [if_neg c5] at H
      exact absurd H (by simp)
    ·rw [if_neg c4] at H
     have c4b0 : decide (BD < (l0.length : Int)) = false:=decide_eq_false c4
     clear c4
     obtain rfl:=Option.some.inj H
     go_wp2
     repeat (go_quiet (fail);try go_wp2)
     go_ret
     exact ⟨by first|rfl|(simp;done)|(simp [*];done),by repeat (first|exact Drawn0.refl _|apply Drawn0.step)⟩
 ·rw [if_neg c3] at H
  have c3b0 : ((l0.length : Int) == (l1.length : Int)) = false:=beq_eq_false_iff_ne.mpr c3
  have c3b1 : ((l0.length : Int) != (l1.length : Int)) = true:=bne_iff_ne.mpr c3
  have c3b2 : (l0.length == l1.length) = false:=by first|simpa using c3|(simp at c3 ⊢;omega)
  obtain rfl:=Option.some.inj H
  go_enter Tryz.func111,Tryz.ntmps111
  go_wp2
  repeat (go_quiet (fail);try go_wp2)
  go_ret
  exact ⟨by first|rfl|(simp;done)|(simp [*];done),by repeat (first|exact Drawn0.refl _|apply Drawn0.step)⟩
end Go.Proofs.YtpncpefppifgdaaGreatDoor.GUt
