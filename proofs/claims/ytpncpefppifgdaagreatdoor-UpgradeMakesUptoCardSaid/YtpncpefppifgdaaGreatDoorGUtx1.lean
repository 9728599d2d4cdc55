/- Written by this session's own program (wip/gen.py) out of the translation: plain Lean functions of the Go functions, and proofs that the calls come to their answers. No conditions beside those in the statements. -/
import Derived.Test.YtpncpefppifgdaaGreatDoorCp
import Derived.Test.YtpncpefppifgdaaGreatDoorGUtx0
namespace Go.Proofs.YtpncpefppifgdaaGreatDoor.GUt
open Go.RowKit Go.Proofs.YtpncpefppifgdaaGreatDoorW.PrintWords Go.Proofs.YtpncpefppifgdaaGreatDoorW.PrintLast Go.Proofs.YtpncpefppifgdaaGreatDoorW.PrintMore
attribute [local go_sem] fZ gq gM gN fM fO gu gD
set_option linter.unusedVariables false
set_option linter.unusedSimpArgs false
def bL.l0 : Nat → Int → List (S67) → Int → Int → Option (Bool)
 | 0,_,_,_,_=>none
 | k + 1,x3,x7,x8,x9=>if x9 < x8 then (if 0 ≤ x9 then (if x9 < (x7.length : Int) then (if (wrap64 (x3 + (wrap64 ((wrap64 ((wrap64 (1 + (((dA x7 x9).f0).size : Int))) + (((dA x7 x9).f1).size : Int))) + (((dA x7 x9).f2).size : Int))))) > 20000 then (some false) else (bL.l0 k (wrap64 (x3 + (wrap64 ((wrap64 ((wrap64 (1 + (((dA x7 x9).f0).size : Int))) + (((dA x7 x9).f1).size : Int))) + (((dA x7 x9).f2).size : Int))))) x7 x8 (wrap64 (x9 + 1)))) else (none)) else (none)) else (some true)
def bL.f (k : Nat) (BI : Int) (Bu : List (S67)) : Option (Bool):=bL.l0 k 0 Bu (Bu.length : Int) 0
theorem bL.eB : ∀ k,(∀ y0 y1 y2 y3,LeO (bL.l0 k y0 y1 y2 y3) (bL.l0 (k + 1) y0 y1 y2 y3))
 | 0=>fun _ _ _ _ r h=>by simp [bL.l0] at h
 | k + 1=>by
  have CG:=bL.eB k
  ·intro y0 y1 y2 y3
   unfold bL.l0
   repeat' first
   | (with_reducible exact CG _ _ _ _)
   | (with_reducible exact LeO.refl _)
   | (with_reducible exact LeO.none _)
   | (with_reducible refine LeO.ite ?_ ?_)
   | (with_reducible refine LeO.bind ?_ (fun _=>?_))
   | exact CG _ _ _ _
   | exact LeO.none _
   | refine LeO.ite ?_ ?_
   | refine LeO.bind ?_ (fun _=>?_)
theorem bL.mono : ∀ a0 a1 k,LeO (bL.f k a0 a1) (bL.f (k + 1) a0 a1):=by
 intro a0 a1 k
 have CG:=bL.eB k
 unfold bL.f
 repeat' first
   | (with_reducible exact CG _ _ _ _)
   | (with_reducible exact LeO.refl _)
   | (with_reducible exact LeO.none _)
   | (with_reducible refine LeO.ite ?_ ?_)
   | (with_reducible refine LeO.bind ?_ (fun _=>?_))
   | exact CG _ _ _ _
   | exact LeO.none _
   | refine LeO.ite ?_ ?_
   | refine LeO.bind ?_ (fun _=>?_)
set_option maxHeartbeats 8000000 in
set_option maxRecDepth 100000 in
theorem bL.calls (k : Nat) (BI : Int) (Cv : Option Addr) (BQ : Nat) (Bu : List (S67)) (r : Bool) (w : World) (CW : Kd.C k67 w Cv Bu.length Bu) (CX : Bu.length ≤ BQ) (h : bL.f k BI Bu = some r) :
  Calls Tryz.prog 6 #[.agg #[.int .u32 BI,.slice Cv Bu.length BQ]] w fun e w'=>e = .returned (.bool r) ∧ Below w.heap.size w w':=by
 have FN:=Tryz.underlying25
 have FP:=Tryz.underlying67
 have Di:=Aside0.mk CW
 have Ee:=Aside0.mk CX
 clear CW CX
 have HB:=Aside0.mk (Below.refl w.heap.size w)
 have H : (bL.l0 k 0 Bu (Bu.length : Int) 0) = some r:=h
 clear h
 have H':=Aside0.mk H
 clear H
 go_enter Tryz.func6,Tryz.ntmps6
 go_wp2_with (first|((with_reducible refine dz (N:=1) rfl ?_);refine dJ ?hg (N:=1) ?hd (cs:=#[.int .u32 BI,.slice Cv Bu.length BQ]) (t:=25) ?hr ?_;(case hd=>rfl);(case hg=>rfl);(case hr=>first|(go_simp;done)|(go_simp;rfl));intro BR hg w2 hbox hb;have BS:=Aside0.mk (aN hb_ hb);have Cw:=Aside0.mk (hbox);have CY:=Aside0.mk ((by rw [hg];exact (aU hb_) : w.heap.size ≤ BR));have CZ:=Aside0.mk ((by rw [hg];exact (aU hb_) : w.heap.size ≤ BR));clear HB;have HB:=BS;have BJ:=Cw;have Fb:=CY;have Fe:=CZ;clear BS Cw CY CZ;clear hb hbox hg;have CJ : w2.cell? ⟨BR,0,none⟩ = some (.int .u32 BI):=(ah BJ.out 0).trans rfl;have CK : w2.cell? ⟨BR,1,none⟩ = some (.slice Cv Bu.length BQ):=(ah BJ.out 1).trans rfl;have CO:=ay BJ.out 0;have CP:=ay BJ.out 1))
 go_loopg [3,9] k (fun kq v3 v9 w'=>∃ (Ck : Int) (BF : Int),v3 = .int .i64 Ck ∧ v9 = .int .i64 BF ∧ Aside0 (bL.l0 kq Ck Bu (Bu.length : Int) BF = some r) ∧ Aside0 (kq ≤ k) ∧ Aside0 (w'.heap[BR]? = some (.cells #[.int .u32 BI,(.slice Cv Bu.length BQ)] 25 (0,0))) ∧ Aside0 (Below w.heap.size w w'))
 case atStart=>exact ⟨(0),(0),(by first|rfl|(simp;done)|(simp [*];done)),(by first|rfl|(simp;done)|(simp [*];done)),H',⟨Nat.le_refl _⟩,⟨by (with_reducible repeat (first|apply aj|apply av|apply ak));exact BJ.out⟩,⟨hb_⟩⟩
 case round =>
  clear H'
  try clear p2
  try clear CJ
  try clear CK
  try clear CO
  try clear CP
  obtain ⟨Ck,BF,rfl,rfl,HA,Dz,BJ,HB⟩:=hrel
  cases gk with
  | zero=>exact absurd HA.out (by simp [bL.l0])
  | succ k1 =>
   have H:=HA.out
   clear HA
   simp only [bL.l0] at H
   by_cases c4 : BF < (Bu.length : Int)
   ·rw [if_pos c4] at H
    have c4b0 : decide (BF < (Bu.length : Int)) = true:=decide_eq_true c4
    clear c4
    by_cases c5 : 0 ≤ BF
    ·rw [if_pos c5] at H
     have c5b0 : decide (0 ≤ BF) = true:=decide_eq_true c5
     clear c5
     by_cases c6 : BF < (Bu.length : Int)
     ·rw [if_pos c6] at H
      have c6b0 : decide (BF < (Bu.length : Int)) = true:=decide_eq_true c6
      clear c6
      by_cases c7 : (wrap64 (Ck + (wrap64 ((wrap64 ((wrap64 (1 + (((dA Bu BF).f0).size : Int))) + (((dA Bu BF).f1).size : Int))) + (((dA Bu BF).f2).size : Int))))) > 20000
      ·rw [if_pos c7] at H
       have c7b0 : decide (20000 < (wrap64 (Ck + (wrap64 ((wrap64 ((wrap64 (1 + (((dA Bu BF).f0).size : Int))) + (((dA Bu BF).f1).size : Int))) + (((dA Bu BF).f2).size : Int)))))) = true:=decide_eq_true c7
       clear c7
       obtain rfl:=Option.some.inj H
       have Db : 0 ≤ (BF : Int):=of_decide_eq_true (by first|(with_reducible assumption)|assumption)
       have Dc : BF < (Bu.length : Int):=of_decide_eq_true (by first|(with_reducible assumption)|assumption)
       obtain ⟨Cz,DK,BU,BZ,Ca,Cb⟩:=qE Di.out BF Db Dc
       cases DK
       replace BU:=(HB.out.cell (World.block_lt_of_cell? w _ BU)).trans BU
       replace BZ:=(HB.out.cell (World.block_lt_of_cell? w _ BZ)).trans BZ
       replace Ca:=(HB.out.cell (World.block_lt_of_cell? w _ Ca)).trans Ca
       replace Cb:=(HB.out.cell (World.block_lt_of_cell? w _ Cb)).trans Cb
       replace Db:=eq_true Db
       replace Dc:=eq_true Dc
       go_wp2_with (first|((with_reducible refine dz (N:=5) rfl ?_);refine dJ ?hg (N:=5) ?hd (cs:=#[.string (⟨#[]⟩ : ByteArray),.string (⟨#[]⟩ : ByteArray),.string (⟨#[]⟩ : ByteArray),.int .u8 0]) (t:=67) ?hr ?_;(case hd=>rfl);(case hg=>rfl);(case hr=>first|(go_simp;done)|(go_simp;rfl));intro BK hg w8 hbox hb;have BS:=Aside0.mk (aI (g:=BR) (o:=.cells #[.int .u32 BI,.slice (some Cz) Bu.length BQ] 25 (0,0)) (bk_ BJ.out) hb);have Cw:=Aside0.mk (aN hb_ hb);have CY:=Aside0.mk (hbox);have CZ:=Aside0.mk ((by rw [hg];exact (aU hb_) : w.heap.size ≤ BK));have Dt:=Aside0.mk ((by rw [hg];exact (aU hb_) : w.heap.size ≤ BK));have Du:=Aside0.mk ((by rw [hg];exact Nat.ne_of_lt (bE (g:=BR) (o:=.cells #[.int .u32 BI,.slice (some Cz) Bu.length BQ] 25 (0,0)) (bk_ BJ.out)) : BR ≠ BK));have Dv:=Aside0.mk ((by rw [hg];exact Nat.ne_of_gt (bE (g:=BR) (o:=.cells #[.int .u32 BI,.slice (some Cz) Bu.length BQ] 25 (0,0)) (bk_ BJ.out)) : BK ≠ BR));clear BJ;clear HB;have BJ:=BS;have HB:=Cw;have BL:=CY;have Ef:=CZ;have Eh:=Dt;have BG:=Du;have Cg:=Dv;clear BS Cw CY CZ Dt Du Dv;clear hb hbox hg;have FQ:=Cg.out;have FR:=BG.out;have Es : w8.cell? ⟨BK,0,none⟩ = some (.string (⟨#[]⟩ : ByteArray)):=(ah BL.out 0).trans rfl;have Et : w8.cell? ⟨BK,1,none⟩ = some (.string (⟨#[]⟩ : ByteArray)):=(ah BL.out 1).trans rfl;have Eu : w8.cell? ⟨BK,2,none⟩ = some (.string (⟨#[]⟩ : ByteArray)):=(ah BL.out 2).trans rfl;have Ew : w8.cell? ⟨BK,3,none⟩ = some (.int .u8 0):=(ah BL.out 3).trans rfl;have Ey:=ay BL.out 0;have Ez:=ay BL.out 1;have EA:=ay BL.out 2;have EB:=ay BL.out 3))
       go_ret
       exact ⟨by first|rfl|(simp [bB,bC] <;> rfl)|(simp [*,bB,bC] <;> rfl),hb_⟩
      ·rw [if_neg c7] at H
       have c7b0 : decide (20000 < (wrap64 (Ck + (wrap64 ((wrap64 ((wrap64 (1 + (((dA Bu BF).f0).size : Int))) + (((dA Bu BF).f1).size : Int))) + (((dA Bu BF).f2).size : Int)))))) = false:=decide_eq_false c7
       clear c7
       have H':=Aside0.mk H
       clear H
       have Db : 0 ≤ (BF : Int):=of_decide_eq_true (by first|(with_reducible assumption)|assumption)
       have Dc : BF < (Bu.length : Int):=of_decide_eq_true (by first|(with_reducible assumption)|assumption)
       obtain ⟨Cz,DK,BU,BZ,Ca,Cb⟩:=qE Di.out BF Db Dc
       cases DK
       replace BU:=(HB.out.cell (World.block_lt_of_cell? w _ BU)).trans BU
       replace BZ:=(HB.out.cell (World.block_lt_of_cell? w _ BZ)).trans BZ
       replace Ca:=(HB.out.cell (World.block_lt_of_cell? w _ Ca)).trans Ca
       replace Cb:=(HB.out.cell (World.block_lt_of_cell? w _ Cb)).trans Cb
       replace Db:=eq_true Db
       replace Dc:=eq_true Dc
       go_wp2_with (first|((with_reducible refine dz (N:=5) rfl ?_);refine dJ ?hg (N:=5) ?hd (cs:=#[.string (⟨#[]⟩ : ByteArray),.string (⟨#[]⟩ : ByteArray),.string (⟨#[]⟩ : ByteArray),.int .u8 0]) (t:=67) ?hr ?_;(case hd=>rfl);(case hg=>rfl);(case hr=>first|(go_simp;done)|(go_simp;rfl));intro BK hg EC hbox hb;have BS:=Aside0.mk (aI (g:=BR) (o:=.cells #[.int .u32 BI,.slice (some Cz) Bu.length BQ] 25 (0,0)) (bk_ BJ.out) hb);have Cw:=Aside0.mk (aN hb_ hb);have CY:=Aside0.mk (hbox);have CZ:=Aside0.mk ((by rw [hg];exact (aU hb_) : w.heap.size ≤ BK));have Dt:=Aside0.mk ((by rw [hg];exact (aU hb_) : w.heap.size ≤ BK));have Du:=Aside0.mk ((by rw [hg];exact Nat.ne_of_lt (bE (g:=BR) (o:=.cells #[.int .u32 BI,.slice (some Cz) Bu.length BQ] 25 (0,0)) (bk_ BJ.out)) : BR ≠ BK));have Dv:=Aside0.mk ((by rw [hg];exact Nat.ne_of_gt (bE (g:=BR) (o:=.cells #[.int .u32 BI,.slice (some Cz) Bu.length BQ] 25 (0,0)) (bk_ BJ.out)) : BK ≠ BR));clear BJ;clear HB;have BJ:=BS;have HB:=Cw;have BL:=CY;have Ef:=CZ;have Eh:=Dt;have BG:=Du;have Cg:=Dv;clear BS Cw CY CZ Dt Du Dv;clear hb hbox hg;have Fg:=Cg.out;have Fh:=BG.out;have ED : EC.cell? ⟨BK,0,none⟩ = some (.string (⟨#[]⟩ : ByteArray)):=(ah BL.out 0).trans rfl;have EF : EC.cell? ⟨BK,1,none⟩ = some (.string (⟨#[]⟩ : ByteArray)):=(ah BL.out 1).trans rfl;have EG : EC.cell? ⟨BK,2,none⟩ = some (.string (⟨#[]⟩ : ByteArray)):=(ah BL.out 2).trans rfl;have EH : EC.cell? ⟨BK,3,none⟩ = some (.int .u8 0):=(ah BL.out 3).trans rfl;have EI:=ay BL.out 0;have EJ:=ay BL.out 1;have EK:=ay BL.out 2;have EL:=ay BL.out 3))
       go_roundg k1
       case measure=>have:=Dz.out;omega
       case rel=>exact ⟨(wrap64 (Ck + (wrap64 ((wrap64 ((wrap64 (1 + (((dA Bu BF).f0).size : Int))) + (((dA Bu BF).f1).size : Int))) + (((dA Bu BF).f2).size : Int))))),(wrap64 (BF + 1)),(by first|rfl|(simp;done)|(simp [*];done)),(by first|rfl|(simp;done)|(simp [*];done)),H',⟨by have:=Dz.out;omega⟩,⟨by (with_reducible repeat (first|apply aj|apply av|apply ak));refine aH ?_ BG.out _;(with_reducible repeat (first|apply aj|apply av|apply ak));refine aH ?_ BG.out _;(with_reducible repeat (first|apply aj|apply av|apply ak));refine aH ?_ BG.out _;(with_reducible repeat (first|apply aj|apply av|apply ak));refine aH ?_ BG.out _;(with_reducible repeat (first|apply aj|apply av|apply ak));exact BJ.out⟩,⟨hb_⟩⟩
     ·rw [if_neg c6] at H
      exact absurd H (by simp)
    ·rw [if_neg c5] at H
     exact absurd H (by simp)
   ·rw [if_neg c4] at H
    have c4b0 : decide (BF < (Bu.length : Int)) = false:=decide_eq_false c4
    clear c4
    obtain rfl:=Option.some.inj H
    go_wp2
    go_ret
    exact ⟨by first|rfl|(simp [bB,bC] <;> rfl)|(simp [*,bB,bC] <;> rfl),hb_⟩
mutual
def aZ.l0 : Nat → Int → List (S71) → Int → Int → Option (Bool)
 | 0,_,_,_,_=>none
 | k + 1,x3,x9,x10,Dr=>if Dr < x10 then (if 0 ≤ Dr then (if Dr < (x9.length : Int) then (aZ.l1 k (wrap64 (x3 + (wrap64 ((wrap64 ((wrap64 (1 + (((aJ x9 Dr).f0).size : Int))) + (((aJ x9 Dr).f1).size : Int))) + (((aJ x9 Dr).f2).size : Int))))) x9 x10 Dr ((aJ x9 Dr).f5) (((aJ x9 Dr).f5).length : Int) 0) else (none)) else (none)) else (some true)
def aZ.l1 : Nat → Int → List (S71) → Int → Int → List (S73) → Int → Int → Option (Bool)
 | 0,_,_,_,_,_,_,_=>none
 | k + 1,x3,x9,x10,Dr,x30,x31,x32=>if x32 < x31 then (if 0 ≤ x32 then (if x32 < (x30.length : Int) then (aZ.l1 k (wrap64 (x3 + (wrap64 ((wrap64 (1 + (((fF x30 x32).f0).size : Int))) + (((fF x30 x32).f1).size : Int))))) x9 x10 Dr x30 x31 (wrap64 (x32 + 1))) else (none)) else (none)) else (if x3 > 20000 then (some false) else (aZ.l0 k x3 x9 x10 (wrap64 (Dr + 1))))
end
def aZ.f (k : Nat) (BI : Int) (Bu : List (S71)) : Option (Bool):=aZ.l0 k 0 Bu (Bu.length : Int) 0
theorem aZ.eB : ∀ k,(∀ y0 y1 y2 y3,LeO (aZ.l0 k y0 y1 y2 y3) (aZ.l0 (k + 1) y0 y1 y2 y3)) ∧ (∀ y0 y1 y2 y3 y4 y5 y6,LeO (aZ.l1 k y0 y1 y2 y3 y4 y5 y6) (aZ.l1 (k + 1) y0 y1 y2 y3 y4 y5 y6))
 | 0=>⟨fun _ _ _ _ r h=>by simp [aZ.l0] at h,fun _ _ _ _ _ _ _ r h=>by simp [aZ.l1] at h⟩
 | k + 1=>by
  obtain ⟨CG,ih1⟩:=aZ.eB k
  refine ⟨?_,?_⟩
  ·intro y0 y1 y2 y3
   unfold aZ.l0
   repeat' first
   | (with_reducible exact CG _ _ _ _)
   | (with_reducible exact ih1 _ _ _ _ _ _ _)
   | (with_reducible exact LeO.refl _)
   | (with_reducible exact LeO.none _)
   | (with_reducible refine LeO.ite ?_ ?_)
   | (with_reducible refine LeO.bind ?_ (fun _=>?_))
   | exact CG _ _ _ _
   | exact ih1 _ _ _ _ _ _ _
   | exact LeO.none _
   | refine LeO.ite ?_ ?_
   | refine LeO.bind ?_ (fun _=>?_)
  ·intro y0 y1 y2 y3 y4 y5 y6
   unfold aZ.l1
   repeat' first
   | (with_reducible exact CG _ _ _ _)
   | (with_reducible exact ih1 _ _ _ _ _ _ _)
   | (with_reducible exact LeO.refl _)
   | (with_reducible exact LeO.none _)
   | (with_reducible refine LeO.ite ?_ ?_)
   | (with_reducible refine LeO.bind ?_ (fun _=>?_))
   | exact CG _ _ _ _
   | exact ih1 _ _ _ _ _ _ _
   | exact LeO.none _
   | refine LeO.ite ?_ ?_
   | refine LeO.bind ?_ (fun _=>?_)
theorem aZ.mono : ∀ a0 a1 k,LeO (aZ.f k a0 a1) (aZ.f (k + 1) a0 a1):=by
 intro a0 a1 k
 obtain ⟨CG,ih1⟩:=aZ.eB k
 unfold aZ.f
 repeat' first
   | (with_reducible exact CG _ _ _ _)
   | (with_reducible exact ih1 _ _ _ _ _ _ _)
   | (with_reducible exact LeO.refl _)
   | (with_reducible exact LeO.none _)
   | (with_reducible refine LeO.ite ?_ ?_)
   | (with_reducible refine LeO.bind ?_ (fun _=>?_))
   | exact CG _ _ _ _
   | exact ih1 _ _ _ _ _ _ _
   | exact LeO.none _
   | refine LeO.ite ?_ ?_
   | refine LeO.bind ?_ (fun _=>?_)
set_option maxHeartbeats 8000000 in
set_option maxRecDepth 100000 in
theorem aZ.calls (k : Nat) (BI : Int) (Cv : Option Addr) (BQ : Nat) (Bu : List (S71)) (r : Bool) (w : World) (CW : Kd.C k71 w Cv Bu.length Bu) (CX : Bu.length ≤ BQ) (h : aZ.f k BI Bu = some r) :
  Calls Tryz.prog 7 #[.agg #[.int .u64 BI,.slice Cv Bu.length BQ]] w fun e w'=>e = .returned (.bool r) ∧ Below w.heap.size w w':=by
 have FT:=Tryz.underlying29
 have FU:=Tryz.underlying71
 have FV:=Tryz.underlying73
 have Di:=Aside0.mk CW
 have Ee:=Aside0.mk CX
 clear CW CX
 have HB:=Aside0.mk (Below.refl w.heap.size w)
 have H : (aZ.l0 k 0 Bu (Bu.length : Int) 0) = some r:=h
 clear h
 have H':=Aside0.mk H
 clear H
 go_enter Tryz.func7,Tryz.ntmps7
 go_wp2_with (first|((with_reducible refine dz (N:=1) rfl ?_);refine dJ ?hg (N:=1) ?hd (cs:=#[.int .u64 BI,.slice Cv Bu.length BQ]) (t:=29) ?hr ?_;(case hd=>rfl);(case hg=>rfl);(case hr=>first|(go_simp;done)|(go_simp;rfl));intro BN hg w2 hbox hb;have BS:=Aside0.mk (aN hb_ hb);have Cw:=Aside0.mk (hbox);have CY:=Aside0.mk ((by rw [hg];exact (aU hb_) : w.heap.size ≤ BN));have CZ:=Aside0.mk ((by rw [hg];exact (aU hb_) : w.heap.size ≤ BN));clear HB;have HB:=BS;have Bz:=Cw;have Fj:=CY;have Fp:=CZ;clear BS Cw CY CZ;clear hb hbox hg;have CJ : w2.cell? ⟨BN,0,none⟩ = some (.int .u64 BI):=(ah Bz.out 0).trans rfl;have CK : w2.cell? ⟨BN,1,none⟩ = some (.slice Cv Bu.length BQ):=(ah Bz.out 1).trans rfl;have CO:=ay Bz.out 0;have CP:=ay Bz.out 1))
 go_loopg [3,11] k (fun kq v3 v11 w'=>∃ (Ck : Int) (Bv : Int),v3 = .int .i64 Ck ∧ v11 = .int .i64 Bv ∧ Aside0 (aZ.l0 kq Ck Bu (Bu.length : Int) Bv = some r) ∧ Aside0 (kq ≤ k) ∧ Aside0 (w'.heap[BN]? = some (.cells #[.int .u64 BI,(.slice Cv Bu.length BQ)] 29 (0,0))) ∧ Aside0 (Below w.heap.size w w'))
 case atStart=>exact ⟨(0),(0),(by first|rfl|(simp;done)|(simp [*];done)),(by first|rfl|(simp;done)|(simp [*];done)),H',⟨Nat.le_refl _⟩,⟨by (with_reducible repeat (first|apply aj|apply av|apply ak));exact Bz.out⟩,⟨hb_⟩⟩
 case round =>
  clear H'
  try clear p2
  try clear CJ
  try clear CK
  try clear CO
  try clear CP
  obtain ⟨Ck,Bv,rfl,rfl,HA,Dz,Bz,HB⟩:=hrel
  cases gk with
  | zero=>exact absurd HA.out (by simp [aZ.l0])
  | succ k1 =>
   have H:=HA.out
   clear HA
   simp only [aZ.l0] at H
   by_cases c4 : Bv < (Bu.length : Int)
   ·rw [if_pos c4] at H
    have c4b0 : decide (Bv < (Bu.length : Int)) = true:=decide_eq_true c4
    clear c4
    by_cases c5 : 0 ≤ Bv
    ·rw [if_pos c5] at H
     have c5b0 : decide (0 ≤ Bv) = true:=decide_eq_true c5
     clear c5
     by_cases c6 : Bv < (Bu.length : Int)
     ·rw [if_pos c6] at H
      have c6b0 : decide (Bv < (Bu.length : Int)) = true:=decide_eq_true c6
      clear c6
      have H':=Aside0.mk H
      clear H
      have DC : 0 ≤ (Bv : Int):=of_decide_eq_true (by first|(with_reducible assumption)|assumption)
      have DF : Bv < (Bu.length : Int):=of_decide_eq_true (by first|(with_reducible assumption)|assumption)
      obtain ⟨CB,DL,CQ,ET,Cn,Co,Cq,Cr,Ct,Cu,Dj,Dk⟩:=rZ Di.out Bv DC DF
      cases ET
      replace Cn:=(HB.out.cell (World.block_lt_of_cell? w _ Cn)).trans Cn
      replace Co:=(HB.out.cell (World.block_lt_of_cell? w _ Co)).trans Co
      replace Cq:=(HB.out.cell (World.block_lt_of_cell? w _ Cq)).trans Cq
      replace Cr:=(HB.out.cell (World.block_lt_of_cell? w _ Cr)).trans Cr
      replace Ct:=(HB.out.cell (World.block_lt_of_cell? w _ Ct)).trans Ct
      replace Cu:=(HB.out.cell (World.block_lt_of_cell? w _ Cu)).trans Cu
      have DI:=Aside0.mk Dk
      have EM:=Aside0.mk Dj
      clear Dk Dj
      replace DC:=eq_true DC
      replace DF:=eq_true DF
      go_wp2_with (first|((with_reducible refine dz (N:=5) rfl ?_);refine dJ ?hg (N:=5) ?hd (cs:=#[.string (⟨#[]⟩ : ByteArray),.string (⟨#[]⟩ : ByteArray),.string (⟨#[]⟩ : ByteArray),.int .u8 0,.int .u16 0,.slice none 0 0]) (t:=71) ?hr ?_;(case hd=>rfl);(case hg=>rfl);(case hr=>first|(go_simp;done)|(go_simp;rfl));intro BO hg w7 hbox hb;have BS:=Aside0.mk (aI (g:=BN) (o:=.cells #[.int .u64 BI,.slice (some CB) Bu.length BQ] 29 (0,0)) (bk_ Bz.out) hb);have Cw:=Aside0.mk (aN hb_ hb);have CY:=Aside0.mk (hbox);have CZ:=Aside0.mk ((by rw [hg];exact (aU hb_) : w.heap.size ≤ BO));have Dt:=Aside0.mk ((by rw [hg];exact (aU hb_) : w.heap.size ≤ BO));have Du:=Aside0.mk ((by rw [hg];exact Nat.ne_of_lt (bE (g:=BN) (o:=.cells #[.int .u64 BI,.slice (some CB) Bu.length BQ] 29 (0,0)) (bk_ Bz.out)) : BN ≠ BO));have Dv:=Aside0.mk ((by rw [hg];exact Nat.ne_of_gt (bE (g:=BN) (o:=.cells #[.int .u64 BI,.slice (some CB) Bu.length BQ] 29 (0,0)) (bk_ Bz.out)) : BO ≠ BN));clear Bz;clear HB;have Bz:=BS;have HB:=Cw;have BD:=CY;have Fq:=CZ;have Fu:=Dt;have BH:=Du;have Dn:=Dv;clear BS Cw CY CZ Dt Du Dv;clear hb hbox hg;have FW:=Dn.out;have FX:=BH.out;have DN : w7.cell? ⟨BO,0,none⟩ = some (.string (⟨#[]⟩ : ByteArray)):=(ah BD.out 0).trans rfl;have DR : w7.cell? ⟨BO,1,none⟩ = some (.string (⟨#[]⟩ : ByteArray)):=(ah BD.out 1).trans rfl;have DT : w7.cell? ⟨BO,2,none⟩ = some (.string (⟨#[]⟩ : ByteArray)):=(ah BD.out 2).trans rfl;have DU : w7.cell? ⟨BO,3,none⟩ = some (.int .u8 0):=(ah BD.out 3).trans rfl;have DV : w7.cell? ⟨BO,4,none⟩ = some (.int .u16 0):=(ah BD.out 4).trans rfl;have DW : w7.cell? ⟨BO,5,none⟩ = some (.slice none 0 0):=(ah BD.out 5).trans rfl;have DX:=ay BD.out 0;have DY:=ay BD.out 1;have DZ:=ay BD.out 2;have D5:=ay BD.out 3;have D6:=ay BD.out 4;have D7:=ay BD.out 5))
      go_loopg [3,32] k1 (fun kq v3 v32 w'=>∃ (C8 : Int) (BP : Int),v3 = .int .i64 C8 ∧ v32 = .int .i64 BP ∧ Aside0 (aZ.l1 kq C8 Bu (Bu.length : Int) Bv ((aJ Bu Bv).f5) (((aJ Bu Bv).f5).length : Int) BP = some r) ∧ Aside0 (kq ≤ k1) ∧ Aside0 (w'.heap[BN]? = some (.cells #[.int .u64 BI,(.slice (some CB) Bu.length BQ)] 29 (0,0))) ∧ Aside0 (w'.heap[BO]? = some (.cells #[.string ((aJ Bu Bv).f0),.string ((aJ Bu Bv).f1),.string ((aJ Bu Bv).f2),.int .u8 ((aJ Bu Bv).f3),.int .u16 ((aJ Bu Bv).f4),(.slice DL ((aJ Bu Bv).f5).length CQ)] 71 (0,0))) ∧ Aside0 (Below w.heap.size w w'))
      case atStart=>exact ⟨(wrap64 (Ck + (wrap64 ((wrap64 ((wrap64 (1 + (((aJ Bu Bv).f0).size : Int))) + (((aJ Bu Bv).f1).size : Int))) + (((aJ Bu Bv).f2).size : Int))))),(0),(by first|rfl|(simp;done)|(simp [*];done)),(by first|rfl|(simp;done)|(simp [*];done)),H',⟨Nat.le_refl _⟩,⟨by (with_reducible repeat (first|apply aj|apply av|apply ak));refine aH ?_ BH.out _;(with_reducible repeat (first|apply aj|apply av|apply ak));refine aH ?_ BH.out _;(with_reducible repeat (first|apply aj|apply av|apply ak));refine aH ?_ BH.out _;(with_reducible repeat (first|apply aj|apply av|apply ak));refine aH ?_ BH.out _;(with_reducible repeat (first|apply aj|apply av|apply ak));refine aH ?_ BH.out _;(with_reducible repeat (first|apply aj|apply av|apply ak));refine aH ?_ BH.out _;(with_reducible repeat (first|apply aj|apply av|apply ak));exact Bz.out⟩,⟨by (with_reducible repeat (first|apply aj|apply av|apply ak));refine aT (cs:=#[.string ((aJ Bu Bv).f0),.string ((aJ Bu Bv).f1),.string ((aJ Bu Bv).f2),.int .u8 ((aJ Bu Bv).f3),.int .u16 ((aJ Bu Bv).f4),.slice none 0 0]) ?_ 5 _ rfl;(with_reducible repeat (first|apply aj|apply av|apply ak));refine aT (cs:=#[.string ((aJ Bu Bv).f0),.string ((aJ Bu Bv).f1),.string ((aJ Bu Bv).f2),.int .u8 ((aJ Bu Bv).f3),.int .u16 0,.slice none 0 0]) ?_ 4 _ rfl;(with_reducible repeat (first|apply aj|apply av|apply ak));refine aT (cs:=#[.string ((aJ Bu Bv).f0),.string ((aJ Bu Bv).f1),.string ((aJ Bu Bv).f2),.int .u8 0,.int .u16 0,.slice none 0 0]) ?_ 3 _ rfl;(with_reducible repeat (first|apply aj|apply av|apply ak));refine aT (cs:=#[.string ((aJ Bu Bv).f0),.string ((aJ Bu Bv).f1),.string (⟨#[]⟩ : ByteArray),.int .u8 0,.int .u16 0,.slice none 0 0]) ?_ 2 _ rfl;(with_reducible repeat (first|apply aj|apply av|apply ak));refine aT (cs:=#[.string ((aJ Bu Bv).f0),.string (⟨#[]⟩ : ByteArray),.string (⟨#[]⟩ : ByteArray),.int .u8 0,.int .u16 0,.slice none 0 0]) ?_ 1 _ rfl;(with_reducible repeat (first|apply aj|apply av|apply ak));refine aT (cs:=#[.string (⟨#[]⟩ : ByteArray),.string (⟨#[]⟩ : ByteArray),.string (⟨#[]⟩ : ByteArray),.int .u8 0,.int .u16 0,.slice none 0 0]) ?_ 0 _ rfl;(with_reducible repeat (first|apply aj|apply av|apply ak));exact BD.out⟩,⟨hb_⟩⟩
      case round =>
       clear H'
       try clear c1
       try clear p1
       try clear q1
       try clear hx1
       try clear p2
       try clear c4
       try clear c4b0
       try clear c5
       try clear c5b0
       try clear c6
       try clear c6b0
       try clear p6
       try clear c7
       try clear c8
       try clear CJ
       try clear CK
       try clear DN
       try clear DR
       try clear DT
       try clear DU
       try clear DV
       try clear DW
       try clear CO
       try clear CP
       try clear DX
       try clear DY
       try clear DZ
       try clear D5
       try clear D6
       try clear D7
       try clear Cn
       try clear Co
       try clear Cq
       try clear Cr
       try clear Ct
       try clear Cu
       try clear DC
       try clear p2
       try clear DF
       obtain ⟨C8,BP,rfl,rfl,HA,EN,Bz,BD,HB⟩:=hrel
       cases gk with
       | zero=>exact absurd HA.out (by simp [aZ.l1])
       | succ k2 =>
        have H:=HA.out
        clear HA
        simp only [aZ.l1] at H
        by_cases c10 : BP < (((aJ Bu Bv).f5).length : Int)
        ·rw [if_pos c10] at H
         have c10b0 : decide (BP < (((aJ Bu Bv).f5).length : Int)) = true:=decide_eq_true c10
         clear c10
         by_cases c11 : 0 ≤ BP
         ·rw [if_pos c11] at H
          have c11b0 : decide (0 ≤ BP) = true:=decide_eq_true c11
          clear c11
          by_cases c12 : BP < (((aJ Bu Bv).f5).length : Int)
          ·rw [if_pos c12] at H
           have c12b0 : decide (BP < (((aJ Bu Bv).f5).length : Int)) = true:=decide_eq_true c12
           clear c12
           have H':=Aside0.mk H
           clear H
           have D8 : 0 ≤ (BP : Int):=of_decide_eq_true (by first|(with_reducible assumption)|assumption)
           have D9 : BP < (((aJ Bu Bv).f5).length : Int):=of_decide_eq_true (by first|(with_reducible assumption)|assumption)
           obtain ⟨Dw,EU,CS,CU⟩:=rY DI.out BP D8 D9
           cases EU
           replace CS:=(HB.out.cell (World.block_lt_of_cell? w _ CS)).trans CS
           replace CU:=(HB.out.cell (World.block_lt_of_cell? w _ CU)).trans CU
           replace D8:=eq_true D8
           replace D9:=eq_true D9
           go_wp2_with (first|((with_reducible refine dz (N:=7) rfl ?_);refine dJ ?hg (N:=7) ?hd (cs:=#[.string (⟨#[]⟩ : ByteArray),.string (⟨#[]⟩ : ByteArray)]) (t:=73) ?hr ?_;(case hd=>rfl);(case hg=>rfl);(case hr=>first|(go_simp;done)|(go_simp;rfl));intro Cj hg Fv hbox hb;have BS:=Aside0.mk (aI (g:=BN) (o:=.cells #[.int .u64 BI,.slice (some CB) Bu.length BQ] 29 (0,0)) (bk_ Bz.out) hb);have Cw:=Aside0.mk (aI (g:=BO) (o:=.cells #[.string ((aJ Bu Bv).f0),.string ((aJ Bu Bv).f1),.string ((aJ Bu Bv).f2),.int .u8 ((aJ Bu Bv).f3),.int .u16 ((aJ Bu Bv).f4),.slice (some Dw) ((aJ Bu Bv).f5).length CQ] 71 (0,0)) (bk_ BD.out) hb);have CY:=Aside0.mk (aN hb_ hb);have CZ:=Aside0.mk (hbox);have Dt:=Aside0.mk ((by rw [hg];exact (aU hb_) : w.heap.size ≤ Cj));have Du:=Aside0.mk ((by rw [hg];exact (aU hb_) : w.heap.size ≤ Cj));have Dv:=Aside0.mk ((by rw [hg];exact Nat.ne_of_lt (bE (g:=BN) (o:=.cells #[.int .u64 BI,.slice (some CB) Bu.length BQ] 29 (0,0)) (bk_ Bz.out)) : BN ≠ Cj));have Fw:=Aside0.mk ((by rw [hg];exact Nat.ne_of_gt (bE (g:=BN) (o:=.cells #[.int .u64 BI,.slice (some CB) Bu.length BQ] 29 (0,0)) (bk_ Bz.out)) : Cj ≠ BN));have Fx:=Aside0.mk ((by rw [hg];exact Nat.ne_of_lt (bE (g:=BO) (o:=.cells #[.string ((aJ Bu Bv).f0),.string ((aJ Bu Bv).f1),.string ((aJ Bu Bv).f2),.int .u8 ((aJ Bu Bv).f3),.int .u16 ((aJ Bu Bv).f4),.slice (some Dw) ((aJ Bu Bv).f5).length CQ] 71 (0,0)) (bk_ BD.out)) : BO ≠ Cj));have Fy:=Aside0.mk ((by rw [hg];exact Nat.ne_of_gt (bE (g:=BO) (o:=.cells #[.string ((aJ Bu Bv).f0),.string ((aJ Bu Bv).f1),.string ((aJ Bu Bv).f2),.int .u8 ((aJ Bu Bv).f3),.int .u16 ((aJ Bu Bv).f4),.slice (some Dw) ((aJ Bu Bv).f5).length CQ] 71 (0,0)) (bk_ BD.out)) : Cj ≠ BO));clear Bz;clear BD;clear HB;have Bz:=BS;have BD:=Cw;have HB:=CY;have Dl:=CZ;have Fz:=Dt;have FB:=Du;have Ch:=Dv;have Dp:=Fw;have Ci:=Fx;have Dq:=Fy;clear BS Cw CY CZ Dt Du Dv Fw Fx Fy;clear hb hbox hg;have FC:=Dp.out;have FD:=Ch.out;have FE:=Dq.out;have FH:=Ci.out;have EO : Fv.cell? ⟨Cj,0,none⟩ = some (.string (⟨#[]⟩ : ByteArray)):=(ah Dl.out 0).trans rfl;have EP : Fv.cell? ⟨Cj,1,none⟩ = some (.string (⟨#[]⟩ : ByteArray)):=(ah Dl.out 1).trans rfl;have ER:=ay Dl.out 0;have ES:=ay Dl.out 1))
           go_roundg k2
           case measure=>have:=Dz.out;have:=EN.out;omega
           case rel=>exact ⟨(wrap64 (C8 + (wrap64 ((wrap64 (1 + (((fF ((aJ Bu Bv).f5) BP).f0).size : Int))) + (((fF ((aJ Bu Bv).f5) BP).f1).size : Int))))),(wrap64 (BP + 1)),(by first|rfl|(simp;done)|(simp [*];done)),(by first|rfl|(simp;done)|(simp [*];done)),H',⟨by have:=Dz.out;have:=EN.out;omega⟩,⟨by (with_reducible repeat (first|apply aj|apply av|apply ak));refine aH ?_ Ch.out _;(with_reducible repeat (first|apply aj|apply av|apply ak));refine aH ?_ Ch.out _;(with_reducible repeat (first|apply aj|apply av|apply ak));exact Bz.out⟩,⟨by (with_reducible repeat (first|apply aj|apply av|apply ak));refine aH ?_ Ci.out _;(with_reducible repeat (first|apply aj|apply av|apply ak));refine aH ?_ Ci.out _;(with_reducible repeat (first|apply aj|apply av|apply ak));exact BD.out⟩,⟨hb_⟩⟩
          ·rw [if_neg c12] at H
           exact absurd H (by simp)
         ·rw [if_neg c11] at H
          exact absurd H (by simp)
        ·rw [if_neg c10] at H
         have c10b0 : decide (BP < (((aJ Bu Bv).f5).length : Int)) = false:=decide_eq_false c10
         clear c10
         by_cases c17 : C8 > 20000
         ·rw [if_pos c17] at H
          have c17b0 : decide (20000 < C8) = true:=decide_eq_true c17
          clear c17
          obtain rfl:=Option.some.inj H
          go_wp2
          go_ret
          exact ⟨by first|rfl|(simp [bB,bC] <;> rfl)|(simp [*,bB,bC] <;> rfl),hb_⟩
         ·rw [if_neg c17] at H
          have c17b0 : decide (20000 < C8) = false:=decide_eq_false c17
          clear c17
          have H':=Aside0.mk H
          clear H
          go_wp2
          go_roundg k2
          case measure=>have:=Dz.out;have:=EN.out;omega
          case rel=>exact ⟨(C8),(wrap64 (Bv + 1)),(by first|rfl|(simp;done)|(simp [*];done)),(by first|rfl|(simp;done)|(simp [*];done)),H',⟨by have:=Dz.out;have:=EN.out;omega⟩,⟨by (with_reducible repeat (first|apply aj|apply av|apply ak));exact Bz.out⟩,⟨hb_⟩⟩
     ·rw [if_neg c6] at H
      exact absurd H (by simp)
    ·rw [if_neg c5] at H
     exact absurd H (by simp)
   ·rw [if_neg c4] at H
    have c4b0 : decide (Bv < (Bu.length : Int)) = false:=decide_eq_false c4
    clear c4
    obtain rfl:=Option.some.inj H
    go_wp2
    go_ret
    exact ⟨by first|rfl|(simp [bB,bC] <;> rfl)|(simp [*,bB,bC] <;> rfl),hb_⟩
def jI.f (a0 : Int) : Option (Bool):=if a0 = 1 then (some true) else (if a0 = 2 then (some true) else (if a0 = 4 then (some true) else (if a0 = 8 then (some true) else (some false))))
set_option maxHeartbeats 8000000 in
set_option maxRecDepth 100000 in
theorem jI.calls (a0 : Int) (r : Bool) (w : World) (h : jI.f a0 = some r) :
  Calls Tryz.prog 91 #[.int .i64 a0] w fun e w'=>e = .returned (.bool r) ∧ Drawn0 w w':=by
 have H : (if a0 = 1 then (some true) else (if a0 = 2 then (some true) else (if a0 = 4 then (some true) else (if a0 = 8 then (some true) else (some false))))) = some r:=h
 clear h
 by_cases c2 : a0 = 1
 ·rw [if_pos c2] at H
  have c2b0 : (a0 == 1) = true:=beq_iff_eq.mpr c2
  have c2b1 : (a0 != 1) = false:=bne_eq_false_iff_eq.mpr c2
  clear c2
  obtain rfl:=Option.some.inj H
  go_enter Tryz.func91,Tryz.ntmps91
  go_wp2
  go_ret
  exact ⟨by first|rfl|(simp;done)|(simp [*];done),by repeat (first|exact Drawn0.refl _|apply Drawn0.step)⟩
 ·rw [if_neg c2] at H
  have c2b0 : (a0 == 1) = false:=beq_eq_false_iff_ne.mpr c2
  have c2b1 : (a0 != 1) = true:=bne_iff_ne.mpr c2
  by_cases c3 : a0 = 2
  ·rw [if_pos c3] at H
   have c3b0 : (a0 == 2) = true:=beq_iff_eq.mpr c3
   have c3b1 : (a0 != 2) = false:=bne_eq_false_iff_eq.mpr c3
   clear c3
   obtain rfl:=Option.some.inj H
   go_enter Tryz.func91,Tryz.ntmps91
   go_wp2
   go_ret
   exact ⟨by first|rfl|(simp;done)|(simp [*];done),by repeat (first|exact Drawn0.refl _|apply Drawn0.step)⟩
  ·rw [if_neg c3] at H
   have c3b0 : (a0 == 2) = false:=beq_eq_false_iff_ne.mpr c3
   have c3b1 : (a0 != 2) = true:=bne_iff_ne.mpr c3
   by_cases c4 : a0 = 4
   ·rw [if_pos c4] at H
    have c4b0 : (a0 == 4) = true:=beq_iff_eq.mpr c4
    have c4b1 : (a0 != 4) = false:=bne_eq_false_iff_eq.mpr c4
    clear c4
    obtain rfl:=Option.some.inj H
    go_enter Tryz.func91,Tryz.ntmps91
    go_wp2
    go_ret
    exact ⟨by first|rfl|(simp;done)|(simp [*];done),by repeat (first|exact Drawn0.refl _|apply Drawn0.step)⟩
   ·rw [if_neg c4] at H
    have c4b0 : (a0 == 4) = false:=beq_eq_false_iff_ne.mpr c4
    have c4b1 : (a0 != 4) = true:=bne_iff_ne.mpr c4
    by_cases c5 : a0 = 8
    ·rw [if_pos c5] at H
     have c5b0 : (a0 == 8) = true:=beq_iff_eq.mpr c5
     have c5b1 : (a0 != 8) = false:=bne_eq_false_iff_eq.mpr c5
     clear c5
     obtain rfl:=Option.some.inj H
     go_enter Tryz.func91,Tryz.ntmps91
     go_wp2
     go_ret
     exact ⟨by first|rfl|(simp;done)|(simp [*];done),by repeat (first|exact Drawn0.refl _|apply Drawn0.step)⟩
    ·rw [if_neg c5] at H
     have c5b0 : (a0 == 8) = false:=beq_eq_false_iff_ne.mpr c5
     have c5b1 : (a0 != 8) = true:=bne_iff_ne.mpr c5
     obtain rfl:=Option.some.inj H
     go_enter Tryz.func91,Tryz.ntmps91
     go_wp2
     go_ret
     exact ⟨by first|rfl|(simp;done)|(simp [*];done),by repeat (first|exact Drawn0.refl _|apply Drawn0.step)⟩
def bX.l0 : Nat → Int → Int → List Int → Int → Int → Option (ByteArray)
 | 0,_,_,_,_,_=>none
 | k + 1,x0,x1,x5,FI,Ea=>if Ea < FI then (if 0 ≤ (wrap64 (8 * Ea)) then (if 0 ≤ (wrap64 ((wrap64 (x0 - 1)) - Ea)) then (if (wrap64 ((wrap64 (x0 - 1)) - Ea)) < (x5.length : Int) then (bX.l0 k x0 x1 (x5.set ((wrap64 ((wrap64 (x0 - 1)) - Ea)) : Int).toNat ((shr .u64 x1 (wrap64 (8 * Ea))) % 256)) FI (wrap64 (Ea + 1))) else (none)) else (none)) else (none)) else (some (strOfNums x5))
def bX.f (k : Nat) (a0 : Int) (a1 : Int) : Option (ByteArray):=(jI.f a0).bind fun t109=>(if t109 = true then (if 0 ≤ a0 then (if (a0 : Int).toNat ≤ 281474976710656 then (bX.l0 k a0 a1 (List.replicate (a0 : Int).toNat 0) a0 0) else (none)) else (none)) else (some (⟨#[]⟩ : ByteArray)))
theorem bX.eB : ∀ k,(∀ y0 y1 y2 y3 y4,LeO (bX.l0 k y0 y1 y2 y3 y4) (bX.l0 (k + 1) y0 y1 y2 y3 y4))
 | 0=>fun _ _ _ _ _ r h=>by simp [bX.l0] at h
 | k + 1=>by
  have CG:=bX.eB k
  ·intro y0 y1 y2 y3 y4
   unfold bX.l0
   repeat' first
   | (with_reducible exact CG _ _ _ _ _)
   | (with_reducible exact LeO.refl _)
   | (with_reducible exact LeO.none _)
   | (with_reducible refine LeO.ite ?_ ?_)
   | (with_reducible refine LeO.bind ?_ (fun _=>?_))
   | exact CG _ _ _ _ _
   | exact LeO.none _
   | refine LeO.ite ?_ ?_
   | refine LeO.bind ?_ (fun _=>?_)
theorem bX.mono : ∀ a0 a1 k,LeO (bX.f k a0 a1) (bX.f (k + 1) a0 a1):=by
 intro a0 a1 k
 have CG:=bX.eB k
 unfold bX.f
 repeat' first
   | (with_reducible exact CG _ _ _ _ _)
   | (with_reducible exact LeO.refl _)
   | (with_reducible exact LeO.none _)
   | (with_reducible refine LeO.ite ?_ ?_)
   | (with_reducible refine LeO.bind ?_ (fun _=>?_))
   | exact CG _ _ _ _ _
   | exact LeO.none _
   | refine LeO.ite ?_ ?_
   | refine LeO.bind ?_ (fun _=>?_)
set_option maxHeartbeats 8000000 in
set_option maxRecDepth 100000 in
theorem bX.calls (k : Nat) (a0 : Int) (a1 : Int) (r : ByteArray) (w : World) (h : bX.f k a0 a1 = some r) :
  Calls Tryz.prog 67 #[.int .i64 a0,.int .u64 a1] w fun e w'=>e = .returned (.string r) ∧ Below w.heap.size w w':=by
 have HB:=Aside0.mk (Below.refl w.heap.size w)
 have H : ((jI.f a0).bind fun t109=>(if t109 = true then (if 0 ≤ a0 then (if (a0 : Int).toNat ≤ 281474976710656 then (bX.l0 k a0 a1 (List.replicate (a0 : Int).toNat 0) a0 0) else (none)) else (none)) else (some (⟨#[]⟩ : ByteArray)))) = some r:=h
 clear h
 replace H:=Option.bind_eq_some_iff.mp H
 obtain ⟨t109,Ei,H⟩:=H
 replace H : (if t109 = true then (if 0 ≤ a0 then (if (a0 : Int).toNat ≤ 281474976710656 then (bX.l0 k a0 a1 (List.replicate (a0 : Int).toNat 0) a0 0) else (none)) else (none)) else (some (⟨#[]⟩ : ByteArray))) = some r:=H
 have A3:=Aside0.mk Ei
 clear Ei
 by_cases c4 : t109 = true
 ·subst c4
  have H1 : (if 0 ≤ a0 then (if (a0 : Int).toNat ≤ 281474976710656 then (bX.l0 k a0 a1 (List.replicate (a0 : Int).toNat 0) a0 0) else (none)) else (none)) = some r:=by rw [if_pos rfl] at H;exact H
  clear H
  have H:=H1
  clear H1
  by_cases c5 : 0 ≤ a0
  ·rw [if_pos c5] at H
   have c5b0:=eq_true c5
   have c5b1 : decide (0 ≤ a0) = true:=decide_eq_true c5
   clear c5
   by_cases c6 : (a0 : Int).toNat ≤ 281474976710656
   ·rw [if_pos c6] at H
    have c6b0:=eq_true c6
    have c6b1 : decide ((a0 : Int).toNat ≤ 281474976710656) = true:=decide_eq_true c6
    clear c6
    obtain ⟨Ej,C9⟩ : ∃ y_ : List Int,y_ = (List.replicate (a0 : Int).toNat 0):=⟨_,rfl⟩
    replace H : (bX.l0 k a0 a1 Ej a0 0) = some r:=by first|(rw [C9];with_reducible exact H)|(have Eb:=(Option.bind_some _ _).symm.trans H;rw [C9];with_reducible exact Eb)|(have Eb:=(Option.bind_some _ _).symm.trans H;with_reducible exact Eb)|with_reducible exact H|(rw [C9];exact H)|exact H
    have DJ:=Aside0.mk C9
    clear C9
    have H':=Aside0.mk H
    clear H
    go_enter Tryz.func67,Tryz.ntmps67
    go_wp2_with (first|((with_reducible refine bO (f:=91) rfl ?_);refine dZ (some 8) rfl rfl Tryz.func91 (by kernel_rfl) rfl #[.int .i64 a0] rfl (by (try simp only [List.map_toArray,List.map_cons,List.map_nil]);first|done|rfl|(simp only [List.length_drop,List.length_take];rfl)|(simp (disch:=first|omega|(simp at *;omega)) only [eu,dD,fA];rfl)) ?_;(with_reducible refine (jI.calls a0 true _ A3.out).mono ?_);rintro e w' ⟨rfl,⟨nd,rfl⟩⟩;refine ⟨_,rfl,?_⟩)|((with_reducible refine dz (N:=11) rfl ?_);refine Kd.yV (Kd.int .u8) _ 5 rfl (N:=11) rfl 138 _ _ rfl a0 rfl rfl Tryz.underlying138 (.int .u8 0) 1 info5 rfl (by decide) (by omega) 0 (ok:=fun _=>True) (okp:=fun _=>True) rfl (fun _ hk=>hk) trivial (of_decide_eq_true (by first|(with_reducible assumption)|assumption)) (Nat.le_trans (Nat.mul_le_mul_right _ (of_decide_eq_true (by first|(with_reducible assumption)|assumption) : a0.toNat ≤ 281474976710656)) (by omega)) (Below.refl _ _) (Nat.le_refl _) ?_;intro EW w7 El hb hg_ hnew_;clear hg_ hnew_;(first|rw [← DJ.out] at El|(simp only [Int.reduceToNat] at El;rw [← DJ.out] at El));have BS:=Aside0.mk (Kd.jr El (aU hb_));have Cw:=Aside0.mk (aN hb_ hb);clear HB;have Em:=BS;have HB:=Cw;clear BS Cw;clear hb El))
    go_loopg [13] k (fun kq v13 w'=>∃ (Cc : List Int) (Bw : Int),v13 = .int .i64 Bw ∧ Aside0 (bX.l0 kq a0 a1 Cc a0 Bw = some r) ∧ Aside0 (kq ≤ k) ∧ Aside0 (Kd.R (Kd.int .u8) 5 w' w.heap.size (fun _=>True) EW Cc) ∧ Aside0 (Below w.heap.size w w'))
    case atStart=>exact ⟨(Ej),(0),(by first|rfl|(simp;done)|(simp [*];done)),H',⟨Nat.le_refl _⟩,⟨by (with_reducible repeat (first|apply Kd.ig|apply Kd.iq|apply Kd.iG));exact Em.out⟩,⟨hb_⟩⟩
    case round =>
     clear H'
     try clear p2
     try clear c4
     try clear c5
     try clear c5b0
     try clear c5b1
     try clear c6
     try clear c6b0
     try clear c6b1
     obtain ⟨Cc,Bw,rfl,HA,Dz,Df,HB⟩:=hrel
     cases gk with
     | zero=>exact absurd HA.out (by simp [bX.l0])
     | succ k1 =>
      have H:=HA.out
      clear HA
      simp only [bX.l0] at H
      by_cases c9 : Bw < a0
      ·rw [if_pos c9] at H
       have c9b0 : decide (Bw < a0) = true:=decide_eq_true c9
       clear c9
       obtain ⟨CV,Dx⟩ : ∃ j_ : Int,(wrap64 (8 * Bw)) = j_:=⟨_,rfl⟩
       replace H : (if 0 ≤ (CV) then (if 0 ≤ (wrap64 ((wrap64 (a0 - 1)) - Bw)) then (if (wrap64 ((wrap64 (a0 - 1)) - Bw)) < (Cc.length : Int) then (bX.l0 k1 a0 a1 (Cc.set ((wrap64 ((wrap64 (a0 - 1)) - Bw)) : Int).toNat ((shr .u64 a1 (CV)) % 256)) a0 (wrap64 (Bw + 1))) else (none)) else (none)) else (none)) = some r:=by first|(rw [Dx] at H;exact H)|(simp only [Dx] at H ⊢;exact H)
       have hji10w : (IntKind.i64.wrap (8 * Bw)) = CV:=(bJ _).trans Dx
       by_cases c11 : 0 ≤ (CV)
       ·rw [if_pos c11] at H
        have c11b0:=eq_true c11
        have c11b1 : decide (0 ≤ (CV)) = true:=decide_eq_true c11
        clear c11
        obtain ⟨Dh,Dm⟩ : ∃ j_ : Int,(shr .u64 a1 (CV)) = j_:=⟨_,rfl⟩
        replace H : (if 0 ≤ (wrap64 ((wrap64 (a0 - 1)) - Bw)) then (if (wrap64 ((wrap64 (a0 - 1)) - Bw)) < (Cc.length : Int) then (bX.l0 k1 a0 a1 (Cc.set ((wrap64 ((wrap64 (a0 - 1)) - Bw)) : Int).toNat ((Dh) % 256)) a0 (wrap64 (Bw + 1))) else (none)) else (none)) = some r:=by first|(rw [Dm] at H;exact H)|(simp only [Dm] at H ⊢;exact H)
        have EX : (a1 / 2 ^ min (CV).toNat 64) = Dh:=Dm
        have hji12z : (CV) ≤ 64 → (a1 / 2 ^ (CV).toNat) = Dh:=uF Dm
        obtain ⟨Ce,Dy⟩ : ∃ j_ : Int,(wrap64 ((wrap64 (a0 - 1)) - Bw)) = j_:=⟨_,rfl⟩
        replace H : (if 0 ≤ (Ce) then (if (Ce) < (Cc.length : Int) then (bX.l0 k1 a0 a1 (Cc.set ((Ce) : Int).toNat ((Dh) % 256)) a0 (wrap64 (Bw + 1))) else (none)) else (none)) = some r:=by first|(rw [Dy] at H;exact H)|(simp only [Dy] at H ⊢;exact H)
        have hji13w : (IntKind.i64.wrap ((wrap64 (a0 - 1)) - Bw)) = Ce:=(bJ _).trans Dy
        by_cases c14 : 0 ≤ (Ce)
        ·rw [if_pos c14] at H
         have c14b0 : decide (0 ≤ (Ce)) = true:=decide_eq_true c14
         clear c14
         by_cases c15 : (Ce) < (Cc.length : Int)
         ·rw [if_pos c15] at H
          have c15b0 : decide ((Ce) < (Cc.length : Int)) = true:=decide_eq_true c15
          clear c15
          obtain ⟨y113,hy113⟩ : ∃ y_ : List Int,y_ = (Cc.set ((Ce) : Int).toNat ((Dh) % 256)):=⟨_,rfl⟩
          replace H : (bX.l0 k1 a0 a1 y113 a0 (wrap64 (Bw + 1))) = some r:=by first|(rw [hy113];with_reducible exact H)|(have Eb:=(Option.bind_some _ _).symm.trans H;rw [hy113];with_reducible exact Eb)|(have Eb:=(Option.bind_some _ _).symm.trans H;with_reducible exact Eb)|with_reducible exact H|(rw [hy113];exact H)|exact H
          have En:=Aside0.mk hy113
          clear hy113
          have H':=Aside0.mk H
          clear H
          have p16 : 0 ≤ ((Ce) : Int):=of_decide_eq_true (by first|(with_reducible assumption)|assumption)
          have q16 : ((Ce) : Int) < ((Cc.length : Int) : Int):=of_decide_eq_true (by first|(with_reducible assumption)|assumption)
          obtain ⟨Ec,EY,Eo,Ep,EZ,FY,Er⟩:=Kd.yT Df.out (by omega)
          (first|cases Eo|(injection Eo with ea_ en_ ec_;(first|subst ea_|(injection ea_ with ea_;subst ea_));subst ec_;clear en_))
          have E5:=Aside0.mk Ep
          have FZ:=Aside0.mk Er
          clear Ep EZ Er
          obtain ⟨E8,E9⟩:=Kd.xk 0 Df.out ((Ce) : Int) p16 q16
          replace p16:=eq_true p16
          replace q16:=eq_true q16
          have Ed:=Kd.yY Df.out ((Ce) : Int) ((Dh) % 256)
          go_wp2_with (first|((with_reducible refine rP (t:=5) (p:=26) rfl ?_);refine qO (t:=5) (p:=26) (v:=?vo_w18) (w1:=(wr.setCell ⟨Ec,((Ce) : Int).toNat,none⟩ (.int .u8 ((Dh) % 256)))) ?hg ?ho ?hn ?hr ?_;(case ho=>rfl);(case hg=>rfl);(case hn=>rfl);(case hr=>first|(go_simp;done)|(go_simp;rfl));intro Fa hw;have hg : wr.grownBy Fa (some Ec):=(by rw [hw];exact Ed.2);have hp_ : Kd.R (Kd.int .u8) 5 Fa w.heap.size (fun _=>True) (.slice (some ⟨Ec,0,none⟩) Cc.length EY) y113:=(by rw [hw,En.out];exact Ed.1);clear Ed;have BS:=Aside0.mk (hp_);have Cw:=Aside0.mk ((by rw [hw];exact fG (HB.out) E5.out : Below w.heap.size w Fa));clear Df;clear HB;have Df:=BS;have HB:=Cw;clear BS Cw;clear hg hw hp_))
          go_roundg k1
          case measure=>have:=Dz.out;omega
          case rel=>exact ⟨(y113),(wrap64 (Bw + 1)),(by first|rfl|(simp;done)|(simp [*];done)),H',⟨by have:=Dz.out;omega⟩,⟨by (with_reducible repeat (first|apply Kd.ig|apply Kd.iq|apply Kd.iG));exact Df.out⟩,⟨hb_⟩⟩
         ·rw [if_neg c15] at H
          exact absurd H (by simp)
        ·rw [if_neg c14] at H
         exact absurd H (by simp)
       ·rw [if_neg c11] at H
        exact absurd H (by simp)
      ·rw [if_neg c9] at H
       have c9b0 : decide (Bw < a0) = false:=decide_eq_false c9
       clear c9
       obtain rfl:=Option.some.inj H
       have FJ:=rJ (P:=Tryz.prog) Tryz.underlying138 Tryz.underlying5 Tryz.underlying9 (Kd.nQ Df.out)
       go_wp2
       go_ret
       exact ⟨by first|rfl|(simp [bB,bC] <;> rfl)|(simp [*,bB,bC] <;> rfl),hb_⟩
   ·rw [if_neg c6] at H
    exact absurd H (by simp)
  ·rw [if_neg c5] at H
   exact absurd H (by simp)
 ·replace c4:=Bool.eq_false_iff.mpr c4
  subst c4
  have H1 : (some (⟨#[]⟩ : ByteArray)) = some r:=by rw [if_neg (show ¬ (false = true) by decide)] at H;exact H
  clear H
  have H:=H1
  clear H1
  obtain rfl:=Option.some.inj H
  go_enter Tryz.func67,Tryz.ntmps67
  go_wp2_with (first|((with_reducible refine bO (f:=91) rfl ?_);refine dZ (some 8) rfl rfl Tryz.func91 (by kernel_rfl) rfl #[.int .i64 a0] rfl (by (try simp only [List.map_toArray,List.map_cons,List.map_nil]);first|done|rfl|(simp only [List.length_drop,List.length_take];rfl)|(simp (disch:=first|omega|(simp at *;omega)) only [eu,dD,fA];rfl)) ?_;(with_reducible refine (jI.calls a0 false _ A3.out).mono ?_);rintro e w' ⟨rfl,⟨nd,rfl⟩⟩;refine ⟨_,rfl,?_⟩))
  go_ret
  exact ⟨by first|rfl|(simp [bB,bC] <;> rfl)|(simp [*,bB,bC] <;> rfl),hb_⟩
def gK.f (k : Nat) (a0 : ByteArray) : Option (ByteArray × Int):=if (a0.size : Int) > 4096 then (some ((⟨#[]⟩ : ByteArray),2)) else ((bX.f k 2 (IntKind.u64.wrap ((a0.size : Int)))).bind fun Cm=>(if Cm.size + a0.size ≤ 9223372036854775807 then (some (Cm ++ a0,0)) else (none)))
theorem gK.mono : ∀ a0 k,LeO (gK.f k a0) (gK.f (k + 1) a0):=by
 intro a0 k
 unfold gK.f
 repeat' first
   | (with_reducible exact bX.mono _ _ _)
   | (with_reducible exact LeO.refl _)
   | (with_reducible exact LeO.none _)
   | (with_reducible refine LeO.ite ?_ ?_)
   | (with_reducible refine LeO.bind ?_ (fun _=>?_))
   | exact bX.mono _ _ _
   | exact LeO.none _
   | refine LeO.ite ?_ ?_
   | refine LeO.bind ?_ (fun _=>?_)
set_option maxHeartbeats 8000000 in
set_option maxRecDepth 100000 in
theorem gK.calls (k : Nat) (a0 : ByteArray) (r1 : ByteArray) (r2 : Int) (w : World) (h : gK.f k a0 = some (r1,r2)) :
  Calls Tryz.prog 68 #[.string a0] w fun e w'=>e = .returned (.tuple #[.string r1,.int .i64 r2]) ∧ Below w.heap.size w w':=by
 have HB:=Aside0.mk (Below.refl w.heap.size w)
 have H : (if (a0.size : Int) > 4096 then (some ((⟨#[]⟩ : ByteArray),2)) else ((bX.f k 2 (IntKind.u64.wrap ((a0.size : Int)))).bind fun Cm=>(if Cm.size + a0.size ≤ 9223372036854775807 then (some (Cm ++ a0,0)) else (none)))) = some (r1,r2):=h
 clear h
 by_cases c2 : (a0.size : Int) > 4096
 ·rw [if_pos c2] at H
  have c2b0 : decide (4096 < (a0.size : Int)) = true:=decide_eq_true c2
  have c2b1 : decide (4096 < a0.size) = true:=decide_eq_true (by omega)
  clear c2
  simp only [Option.some.injEq,Prod.mk.injEq] at H
  obtain ⟨rfl,rfl⟩:=H
  go_enter Tryz.func68,Tryz.ntmps68
  go_wp2
  go_ret2
  exact ⟨by first|rfl|(simp [bB,bC] <;> rfl)|(simp [*,bB,bC] <;> rfl),hb_⟩
 ·rw [if_neg c2] at H
  have c2b0 : decide (4096 < (a0.size : Int)) = false:=decide_eq_false c2
  have c2b1 : decide (4096 < a0.size) = false:=decide_eq_false (by omega)
  clear c2
  replace H:=Option.bind_eq_some_iff.mp H
  obtain ⟨Cm,Ei,H⟩:=H
  replace H : (if Cm.size + a0.size ≤ 9223372036854775807 then (some (Cm ++ a0,0)) else (none)) = some (r1,r2):=H
  have A3:=Aside0.mk Ei
  clear Ei
  by_cases c4 : Cm.size + a0.size ≤ 9223372036854775807
  ·rw [if_pos c4] at H
   have c4b0:=eq_true c4
   have c4b1 : decide (Cm.size + a0.size ≤ 9223372036854775807) = true:=decide_eq_true c4
   try have c4b2 : (9223372036854775807 < Cm.size + a0.size) = False:=eq_false (Nat.not_lt.2 c4)
   simp only [Option.some.injEq,Prod.mk.injEq] at H
   obtain ⟨rfl,rfl⟩:=H
   go_enter Tryz.func68,Tryz.ntmps68
   go_wp2_with (first|((with_reducible refine bO (f:=67) rfl ?_);refine dZ (some 10) rfl rfl Tryz.func67 (by kernel_rfl) rfl #[.int .i64 2,.int .u64 (IntKind.u64.wrap ((a0.size : Int)))] rfl (by (try simp only [List.map_toArray,List.map_cons,List.map_nil]);first|done|rfl|(simp only [List.length_drop,List.length_take];rfl)|(simp (disch:=first|omega|(simp at *;omega)) only [eu,dD,fA];rfl)) ?_;(with_reducible refine (bX.calls k 2 (IntKind.u64.wrap ((a0.size : Int))) Cm _ A3.out).mono ?_);rintro e w5 ⟨rfl,hb⟩;refine ⟨_,rfl,?_⟩;have BS:=Aside0.mk (aN hb_ hb);clear HB;have HB:=BS;clear BS;(try clear hb);(try clear hb2);(try clear hk);(try clear hi)))
   go_ret2
   exact ⟨by first|rfl|(simp [bB,bC] <;> rfl)|(simp [*,bB,bC] <;> rfl),hb_⟩
  ·rw [if_neg c4] at H
   exact absurd H (by simp)
def eF.f (k : Nat)  : Option (Bool):=(gK.f k (⟨#[97]⟩ : ByteArray)).bind fun Da=>((bX.f k 2 258).bind fun t117=>(if t117.toList = ([1,2] : List UInt8) then (if Da.1.toList = ([0,1,97] : List UInt8) then (some (Da.2 == 0)) else (some false)) else (some false)))
theorem eF.mono : ∀ k,LeO (eF.f k ) (eF.f (k + 1) ):=by
 intro  k
 unfold eF.f
 repeat' first
   | (with_reducible exact bX.mono _ _ _)
   | (with_reducible exact gK.mono _ _)
   | (with_reducible exact LeO.refl _)
   | (with_reducible exact LeO.none _)
   | (with_reducible refine LeO.ite ?_ ?_)
   | (with_reducible refine LeO.bind ?_ (fun _=>?_))
   | exact bX.mono _ _ _
   | exact gK.mono _ _
   | exact LeO.none _
   | refine LeO.ite ?_ ?_
   | refine LeO.bind ?_ (fun _=>?_)
set_option maxHeartbeats 8000000 in
set_option maxRecDepth 100000 in
theorem eF.calls (k : Nat)  (r : Bool) (w : World) (h : eF.f k  = some r) :
  Calls Tryz.prog 49 #[] w fun e w'=>e = .returned (.bool r) ∧ Below w.heap.size w w':=by
 have HB:=Aside0.mk (Below.refl w.heap.size w)
 have H : ((gK.f k (⟨#[97]⟩ : ByteArray)).bind fun Da=>((bX.f k 2 258).bind fun t117=>(if t117.toList = ([1,2] : List UInt8) then (if Da.1.toList = ([0,1,97] : List UInt8) then (some (Da.2 == 0)) else (some false)) else (some false)))) = some r:=h
 clear h
 replace H:=Option.bind_eq_some_iff.mp H
 obtain ⟨⟨CF,t116⟩,FL,H⟩:=H
 replace H : ((bX.f k 2 258).bind fun t117=>(if t117.toList = ([1,2] : List UInt8) then (if CF.toList = ([0,1,97] : List UInt8) then (some (t116 == 0)) else (some false)) else (some false))) = some r:=H
 have A1:=Aside0.mk FL
 clear FL
 replace H:=Option.bind_eq_some_iff.mp H
 obtain ⟨t117,FM,H⟩:=H
 replace H : (if t117.toList = ([1,2] : List UInt8) then (if CF.toList = ([0,1,97] : List UInt8) then (some (t116 == 0)) else (some false)) else (some false)) = some r:=H
 have A2:=Aside0.mk FM
 clear FM
 by_cases c3 : t117.toList = ([1,2] : List UInt8)
 ·rw [if_pos c3] at H
  have c3b0 : (t117.toList == ([1,2] : List UInt8)) = true:=beq_iff_eq.mpr c3
  have c3b1 : (t117.toList != ([1,2] : List UInt8)) = false:=bne_eq_false_iff_eq.mpr c3
  clear c3
  by_cases c4 : CF.toList = ([0,1,97] : List UInt8)
  ·rw [if_pos c4] at H
   have c4b0 : (CF.toList == ([0,1,97] : List UInt8)) = true:=beq_iff_eq.mpr c4
   have c4b1 : (CF.toList != ([0,1,97] : List UInt8)) = false:=bne_eq_false_iff_eq.mpr c4
   clear c4
   obtain rfl:=Option.some.inj H
   go_enter Tryz.func49,Tryz.ntmps49
   go_wp2_with (first|((with_reducible refine bO (f:=68) rfl ?_);refine dZ (some 4) rfl rfl Tryz.func68 (by kernel_rfl) rfl #[.string (⟨#[97]⟩ : ByteArray)] rfl (by (try simp only [List.map_toArray,List.map_cons,List.map_nil]);first|done|rfl|(simp only [List.length_drop,List.length_take];rfl)|(simp (disch:=first|omega|(simp at *;omega)) only [eu,dD,fA];rfl)) ?_;(with_reducible refine (gK.calls k (⟨#[97]⟩ : ByteArray) CF t116 _ A1.out).mono ?_);rintro e w5 ⟨rfl,hb⟩;refine ⟨_,rfl,?_⟩;have BS:=Aside0.mk (aN hb_ hb);clear HB;have HB:=BS;clear BS;(try clear hb);(try clear hb2);(try clear hk);(try clear hi))|((with_reducible refine bO (f:=67) rfl ?_);refine dZ (some 7) rfl rfl Tryz.func67 (by kernel_rfl) rfl #[.int .i64 2,.int .u64 258] rfl (by (try simp only [List.map_toArray,List.map_cons,List.map_nil]);first|done|rfl|(simp only [List.length_drop,List.length_take];rfl)|(simp (disch:=first|omega|(simp at *;omega)) only [eu,dD,fA];rfl)) ?_;(with_reducible refine (bX.calls k 2 258 t117 _ A2.out).mono ?_);rintro e w6 ⟨rfl,hb⟩;refine ⟨_,rfl,?_⟩;have BS:=Aside0.mk (aN hb_ hb);clear HB;have HB:=BS;clear BS;(try clear hb);(try clear hb2);(try clear hk);(try clear hi)))
   go_ret
   exact ⟨by first|rfl|(simp [bB,bC] <;> rfl)|(simp [*,bB,bC] <;> rfl),hb_⟩
  ·rw [if_neg c4] at H
   have c4b0 : (CF.toList == ([0,1,97] : List UInt8)) = false:=beq_eq_false_iff_ne.mpr c4
   have c4b1 : (CF.toList != ([0,1,97] : List UInt8)) = true:=bne_iff_ne.mpr c4
   obtain rfl:=Option.some.inj H
   go_enter Tryz.func49,Tryz.ntmps49
   go_wp2_with (first|((with_reducible refine bO (f:=68) rfl ?_);refine dZ (some 4) rfl rfl Tryz.func68 (by kernel_rfl) rfl #[.string (⟨#[97]⟩ : ByteArray)] rfl (by (try simp only [List.map_toArray,List.map_cons,List.map_nil]);first|done|rfl|(simp only [List.length_drop,List.length_take];rfl)|(simp (disch:=first|omega|(simp at *;omega)) only [eu,dD,fA];rfl)) ?_;(with_reducible refine (gK.calls k (⟨#[97]⟩ : ByteArray) CF t116 _ A1.out).mono ?_);rintro e w7 ⟨rfl,hb⟩;refine ⟨_,rfl,?_⟩;have BS:=Aside0.mk (aN hb_ hb);clear HB;have HB:=BS;clear BS;(try clear hb);(try clear hb2);(try clear hk);(try clear hi))|((with_reducible refine bO (f:=67) rfl ?_);refine dZ (some 7) rfl rfl Tryz.func67 (by kernel_rfl) rfl #[.int .i64 2,.int .u64 258] rfl (by (try simp only [List.map_toArray,List.map_cons,List.map_nil]);first|done|rfl|(simp only [List.length_drop,List.length_take];rfl)|(simp (disch:=first|omega|(simp at *;omega)) only [eu,dD,fA];rfl)) ?_;(with_reducible refine (bX.calls k 2 258 t117 _ A2.out).mono ?_);rintro e w8 ⟨rfl,hb⟩;refine ⟨_,rfl,?_⟩;have BS:=Aside0.mk (aN hb_ hb);clear HB;have HB:=BS;clear BS;(try clear hb);(try clear hb2);(try clear hk);(try clear hi)))
   go_ret
   exact ⟨by first|rfl|(simp [bB,bC] <;> rfl)|(simp [*,bB,bC] <;> rfl),hb_⟩
 ·rw [if_neg c3] at H
  have c3b0 : (t117.toList == ([1,2] : List UInt8)) = false:=beq_eq_false_iff_ne.mpr c3
  have c3b1 : (t117.toList != ([1,2] : List UInt8)) = true:=bne_iff_ne.mpr c3
  obtain rfl:=Option.some.inj H
  go_enter Tryz.func49,Tryz.ntmps49
  go_wp2_with (first|((with_reducible refine bO (f:=68) rfl ?_);refine dZ (some 4) rfl rfl Tryz.func68 (by kernel_rfl) rfl #[.string (⟨#[97]⟩ : ByteArray)] rfl (by (try simp only [List.map_toArray,List.map_cons,List.map_nil]);first|done|rfl|(simp only [List.length_drop,List.length_take];rfl)|(simp (disch:=first|omega|(simp at *;omega)) only [eu,dD,fA];rfl)) ?_;(with_reducible refine (gK.calls k (⟨#[97]⟩ : ByteArray) CF t116 _ A1.out).mono ?_);rintro e w9 ⟨rfl,hb⟩;refine ⟨_,rfl,?_⟩;have BS:=Aside0.mk (aN hb_ hb);clear HB;have HB:=BS;clear BS;(try clear hb);(try clear hb2);(try clear hk);(try clear hi))|((with_reducible refine bO (f:=67) rfl ?_);refine dZ (some 7) rfl rfl Tryz.func67 (by kernel_rfl) rfl #[.int .i64 2,.int .u64 258] rfl (by (try simp only [List.map_toArray,List.map_cons,List.map_nil]);first|done|rfl|(simp only [List.length_drop,List.length_take];rfl)|(simp (disch:=first|omega|(simp at *;omega)) only [eu,dD,fA];rfl)) ?_;(with_reducible refine (bX.calls k 2 258 t117 _ A2.out).mono ?_);rintro e F3 ⟨rfl,hb⟩;refine ⟨_,rfl,?_⟩;have BS:=Aside0.mk (aN hb_ hb);clear HB;have HB:=BS;clear BS;(try clear hb);(try clear hb2);(try clear hk);(try clear hi)))
  go_ret
  exact ⟨by first|rfl|(simp [bB,bC] <;> rfl)|(simp [*,bB,bC] <;> rfl),hb_⟩
def eP.f (a0 : Int) : Option (Bool):=if a0 ≥ 97 then (some (decide (a0 ≤ 122))) else (some false)
set_option maxHeartbeats 8000000 in
set_option maxRecDepth 100000 in
theorem eP.calls (a0 : Int) (r : Bool) (w : World) (h : eP.f a0 = some r) :
  Calls Tryz.prog 92 #[.int .u8 a0] w fun e w'=>e = .returned (.bool r) ∧ Drawn0 w w':=by
 have H : (if a0 ≥ 97 then (some (decide (a0 ≤ 122))) else (some false)) = some r:=h
 clear h
 by_cases c2 : a0 ≥ 97
 ·rw [if_pos c2] at H
  have c2b0 : decide (97 ≤ a0) = true:=decide_eq_true c2
  clear c2
  obtain rfl:=Option.some.inj H
  go_enter Tryz.func92,Tryz.ntmps92
  go_wp2
  go_ret
  exact ⟨by first|rfl|(simp;done)|(simp [*];done),by repeat (first|exact Drawn0.refl _|apply Drawn0.step)⟩
 ·rw [if_neg c2] at H
  have c2b0 : decide (97 ≤ a0) = false:=decide_eq_false c2
  clear c2
  obtain rfl:=Option.some.inj H
  go_enter Tryz.func92,Tryz.ntmps92
  go_wp2
  go_ret
  exact ⟨by first|rfl|(simp;done)|(simp [*];done),by repeat (first|exact Drawn0.refl _|apply Drawn0.step)⟩
def dN.f (a0 : Int) : Option (Bool):=if a0 ≥ 48 then (some (decide (a0 ≤ 57))) else (some false)
set_option maxHeartbeats 8000000 in
set_option maxRecDepth 100000 in
theorem dN.calls (a0 : Int) (r : Bool) (w : World) (h : dN.f a0 = some r) :
  Calls Tryz.prog 93 #[.int .u8 a0] w fun e w'=>e = .returned (.bool r) ∧ Drawn0 w w':=by
 have H : (if a0 ≥ 48 then (some (decide (a0 ≤ 57))) else (some false)) = some r:=h
 clear h
 by_cases c2 : a0 ≥ 48
 ·rw [if_pos c2] at H
  have c2b0 : decide (48 ≤ a0) = true:=decide_eq_true c2
  clear c2
  obtain rfl:=Option.some.inj H
  go_enter Tryz.func93,Tryz.ntmps93
  go_wp2
  go_ret
  exact ⟨by first|rfl|(simp;done)|(simp [*];done),by repeat (first|exact Drawn0.refl _|apply Drawn0.step)⟩
 ·rw [if_neg c2] at H
  have c2b0 : decide (48 ≤ a0) = false:=decide_eq_false c2
  clear c2
  obtain rfl:=Option.some.inj H
  go_enter Tryz.func93,Tryz.ntmps93
  go_wp2
  go_ret
  exact ⟨by first|rfl|(simp;done)|(simp [*];done),by repeat (first|exact Drawn0.refl _|apply Drawn0.step)⟩
end Go.Proofs.YtpncpefppifgdaaGreatDoor.GUt
