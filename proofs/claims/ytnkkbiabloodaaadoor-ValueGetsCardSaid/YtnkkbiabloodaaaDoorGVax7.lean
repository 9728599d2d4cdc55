/- Written by this session's own program (wip/gen.py) out of the translation: plain Lean functions of the Go functions, and proofs that the calls come to their answers. No conditions beside those in the statements. -/
import Derived.Test.YtnkkbiabloodaaaDoorGVax0
namespace Go.Proofs.YtnkkbiabloodaaaDoor.GVa
open Go.RowKit Go.Proofs.YtnkkbiabloodaaaDoorW.PrintWords Go.Proofs.YtnkkbiabloodaaaDoorW.PrintLast Go.Proofs.YtnkkbiabloodaaaDoorW.PrintMore
attribute [local go_sem] fG fH fV fZ eO eP fI fJ
set_option linter.unusedVariables false
set_option linter.unusedSimpArgs false
def eF.f (yc : Int) (yg : Int) (yh : Bool) (xW : Int) (xU : ByteArray) (a1 : Int) : Option (ByteArray):=if xW = 4 then ((some (([97 + ((0 : Int) % 26)] : List Int) : List Int)).bind fun xX=>(if xU.size + (strOfNums xX).size ≤ 9223372036854775807 then (some (xU ++ (strOfNums xX))) else (none))) else ((some (([(wrap64 (97 + (Int.tmod a1 26))) % 256] : List Int) : List Int)).bind fun xY=>(if xU.size + (strOfNums xY).size ≤ 9223372036854775807 then (some (xU ++ (strOfNums xY))) else (none)))
set_option maxHeartbeats 8000000 in
set_option maxRecDepth 100000 in
theorem eF.calls (yc : Int) (yg : Int) (yh : Bool) (xW : Int) (xU : ByteArray) (a1 : Int) (r : ByteArray) (w : World) (h : eF.f yc yg yh xW xU a1 = some r) :
  Calls Tryd.prog 31 #[.agg #[.int .i64 yc,.int .i64 yg,.bool yh,.int .i64 xW,.string xU],.int .i64 a1] w fun e w'=>e = .returned (.string r) ∧ Below w.heap.size w w':=by
 have zl:=Tryd.underlying75
 have HB:=Aside0.mk (Below.refl w.heap.size w)
 have H : (if xW = 4 then ((some (([97 + ((0 : Int) % 26)] : List Int) : List Int)).bind fun xX=>(if xU.size + (strOfNums xX).size ≤ 9223372036854775807 then (some (xU ++ (strOfNums xX))) else (none))) else ((some (([(wrap64 (97 + (Int.tmod a1 26))) % 256] : List Int) : List Int)).bind fun xY=>(if xU.size + (strOfNums xY).size ≤ 9223372036854775807 then (some (xU ++ (strOfNums xY))) else (none)))) = some r:=h
 clear h
 by_cases c3 : xW = 4
 ·rw [if_pos c3] at H
  have c3b0 : (xW == 4) = true:=beq_iff_eq.mpr c3
  have c3b1 : (xW != 4) = false:=bne_eq_false_iff_eq.mpr c3
  clear c3
  obtain ⟨xX,yj⟩ : ∃ y_ : List Int,y_ = (([97 + ((0 : Int) % 26)] : List Int)):=⟨_,rfl⟩
  replace H : (if xU.size + (strOfNums xX).size ≤ 9223372036854775807 then (some (xU ++ (strOfNums xX))) else (none)) = some r:=by first|(rw [yj];with_reducible exact H)|(have yD:=(Option.bind_some _ _).symm.trans H;rw [yj];with_reducible exact yD)|(have yD:=(Option.bind_some _ _).symm.trans H;with_reducible exact yD)|with_reducible exact H|(rw [yj];exact H)|exact H
  have yB:=Aside0.mk yj
  clear yj
  by_cases c4 : xU.size + (strOfNums xX).size ≤ 9223372036854775807
  ·rw [if_pos c4] at H
   have c4b0:=eq_true c4
   have c4b1 : decide (xU.size + (strOfNums xX).size ≤ 9223372036854775807) = true:=decide_eq_true c4
   try have c4b2 : (9223372036854775807 < xU.size + (strOfNums xX).size) = False:=eq_false (Nat.not_lt.2 c4)
   obtain rfl:=Option.some.inj H
   go_enter Tryd.func31,Tryd.ntmps31
   go_wp2_with (first|((with_reducible refine bH (N:=2) rfl ?_);refine bF ?hg (N:=2) ?hd (cs:=#[.int .i64 yc,.int .i64 yg,.bool yh,.int .i64 xW,.string xU]) (t:=75) ?hr ?_;(case hd=>rfl);(case hg=>rfl);(case hr=>first|(go_simp;done)|(go_simp;rfl));intro xV hg w5 hbox hb;have yu:=Aside0.mk (aK (by repeat (first|(with_reducible first|exact HB.out|apply av|apply ak|apply au)|exact HB.out)) hb);have yw:=Aside0.mk (hbox);have yx:=Aside0.mk ((by rw [hg];exact (aM (by repeat (first|(with_reducible first|exact HB.out|apply av|apply ak|apply au)|exact HB.out))) : w.heap.size ≤ xV));have yE:=Aside0.mk ((by rw [hg];exact (aM (by repeat (first|(with_reducible first|exact HB.out|apply av|apply ak|apply au)|exact HB.out))) : w.heap.size ≤ xV));clear HB;have HB:=yu;have xS:=yw;have yF:=yx;have xZ:=yE;clear yu yw yx yE;clear hb hbox hg;have yU : w5.cell? ⟨xV,0,none⟩ = some (.int .i64 yc):=(ah xS.out 0).trans rfl;have yV : w5.cell? ⟨xV,1,none⟩ = some (.int .i64 yg):=(ah xS.out 1).trans rfl;have yX : w5.cell? ⟨xV,2,none⟩ = some (.bool yh):=(ah xS.out 2).trans rfl;have yY : w5.cell? ⟨xV,3,none⟩ = some (.int .i64 xW):=(ah xS.out 3).trans rfl;have yZ : w5.cell? ⟨xV,4,none⟩ = some (.string xU):=(ah xS.out 4).trans rfl;have za:=aj xS.out 0;have ze:=aj xS.out 1;have zf:=aj xS.out 2;have zh:=aj xS.out 3;have zi:=aj xS.out 4)|((with_reducible refine bH (N:=14) rfl ?_);refine Kd.rU (Kd.int .u8) _ 5 ?hg (N:=14) ?hd (xs:=([97 + ((0 : Int) % 26)] : List Int)) (inner:=[.int .u8 (97 + ((0 : Int) % 26))]) (ok:=fun _=>True) (okp:=fun _=>True) ?hr ?hp (fun _ hk=>hk) trivial (Below.refl _ _) (Nat.le_refl _) (by simp) ?_;(case hd=>rfl);(case hg=>rfl);(case hr=>first|(go_simp;done)|(go_simp;rfl));(case hp=>exact (cu.one (show Kd.M (Kd.int .u8) _ _ _ (97 + ((0 : Int) % 26)) [.int .u8 (97 + ((0 : Int) % 26))] from rfl) (cu.none _ _)));intro zm w7 yG hb hg_ hnew_;clear hg_ hnew_;(first|rw [← yB.out] at yG|(simp only [Int.reduceToNat] at yG;rw [← yB.out] at yG));have yu:=Aside0.mk (Kd.jg yG (aM (by repeat (first|(with_reducible first|exact HB.out|apply av|apply ak|apply au|refine aG ?_ xZ.out)|exact HB.out))));have yw:=Aside0.mk (aI (g:=xV) (o:=.cells #[.int .i64 yc,.int .i64 yg,.bool yh,.int .i64 xW,.string xU] 75 (0,0)) (bk_ xS.out) hb);have yx:=Aside0.mk (aK (by repeat (first|(with_reducible first|exact HB.out|apply av|apply ak|apply au|refine aG ?_ xZ.out)|exact HB.out)) hb);clear xS;clear HB;have yH:=yu;have xS:=yw;have HB:=yx;clear yu yw yx;clear hb yG;have zn:=mq (P:=Tryd.prog) Tryd.underlying92 Tryd.underlying5 Tryd.underlying9 (Kd.oN yH.out)))
   go_ret
   exact ⟨by first|rfl|(simp [aX,aY] <;> rfl)|(simp [*,aX,aY] <;> rfl),by repeat (first|(with_reducible first|exact HB.out|apply av|apply ak|apply au|refine aG ?_ xZ.out)|exact HB.out)⟩
  ·rw [if_neg c4] at H
   exact absurd H (by simp)
 ·rw [if_neg c3] at H
  have c3b0 : (xW == 4) = false:=beq_eq_false_iff_ne.mpr c3
  have c3b1 : (xW != 4) = true:=bne_iff_ne.mpr c3
  obtain ⟨xY,yt⟩ : ∃ y_ : List Int,y_ = (([(wrap64 (97 + (Int.tmod a1 26))) % 256] : List Int)):=⟨_,rfl⟩
  replace H : (if xU.size + (strOfNums xY).size ≤ 9223372036854775807 then (some (xU ++ (strOfNums xY))) else (none)) = some r:=by first|(rw [yt];with_reducible exact H)|(have yD:=(Option.bind_some _ _).symm.trans H;rw [yt];with_reducible exact yD)|(have yD:=(Option.bind_some _ _).symm.trans H;with_reducible exact yD)|with_reducible exact H|(rw [yt];exact H)|exact H
  have yC:=Aside0.mk yt
  clear yt
  by_cases c10 : xU.size + (strOfNums xY).size ≤ 9223372036854775807
  ·rw [if_pos c10] at H
   have c10b0:=eq_true c10
   have c10b1 : decide (xU.size + (strOfNums xY).size ≤ 9223372036854775807) = true:=decide_eq_true c10
   try have c10b2 : (9223372036854775807 < xU.size + (strOfNums xY).size) = False:=eq_false (Nat.not_lt.2 c10)
   obtain rfl:=Option.some.inj H
   go_enter Tryd.func31,Tryd.ntmps31
   go_wp2_with (first|((with_reducible refine bH (N:=2) rfl ?_);refine bF ?hg (N:=2) ?hd (cs:=#[.int .i64 yc,.int .i64 yg,.bool yh,.int .i64 xW,.string xU]) (t:=75) ?hr ?_;(case hd=>rfl);(case hg=>rfl);(case hr=>first|(go_simp;done)|(go_simp;rfl));intro xV hg yI hbox hb;have yu:=Aside0.mk (aK (by repeat (first|(with_reducible first|exact HB.out|apply av|apply ak|apply au)|exact HB.out)) hb);have yw:=Aside0.mk (hbox);have yx:=Aside0.mk ((by rw [hg];exact (aM (by repeat (first|(with_reducible first|exact HB.out|apply av|apply ak|apply au)|exact HB.out))) : w.heap.size ≤ xV));have yE:=Aside0.mk ((by rw [hg];exact (aM (by repeat (first|(with_reducible first|exact HB.out|apply av|apply ak|apply au)|exact HB.out))) : w.heap.size ≤ xV));clear HB;have HB:=yu;have xS:=yw;have yF:=yx;have xZ:=yE;clear yu yw yx yE;clear hb hbox hg;have yK : yI.cell? ⟨xV,0,none⟩ = some (.int .i64 yc):=(ah xS.out 0).trans rfl;have yL : yI.cell? ⟨xV,1,none⟩ = some (.int .i64 yg):=(ah xS.out 1).trans rfl;have yM : yI.cell? ⟨xV,2,none⟩ = some (.bool yh):=(ah xS.out 2).trans rfl;have yN : yI.cell? ⟨xV,3,none⟩ = some (.int .i64 xW):=(ah xS.out 3).trans rfl;have yO : yI.cell? ⟨xV,4,none⟩ = some (.string xU):=(ah xS.out 4).trans rfl;have yP:=aj xS.out 0;have yQ:=aj xS.out 1;have yR:=aj xS.out 2;have yS:=aj xS.out 3;have yT:=aj xS.out 4)|((with_reducible refine bH (N:=14) rfl ?_);refine Kd.rU (Kd.int .u8) _ 5 ?hg (N:=14) ?hd (xs:=([(wrap64 (97 + (Int.tmod a1 26))) % 256] : List Int)) (inner:=[.int .u8 ((wrap64 (97 + (Int.tmod a1 26))) % 256)]) (ok:=fun _=>True) (okp:=fun _=>True) ?hr ?hp (fun _ hk=>hk) trivial (Below.refl _ _) (Nat.le_refl _) (by simp) ?_;(case hd=>rfl);(case hg=>rfl);(case hr=>first|(go_simp;done)|(go_simp;rfl));(case hp=>exact (cu.one (show Kd.M (Kd.int .u8) _ _ _ ((wrap64 (97 + (Int.tmod a1 26))) % 256) [.int .u8 ((wrap64 (97 + (Int.tmod a1 26))) % 256)] from rfl) (cu.none _ _)));intro zo zq yA hb hg_ hnew_;clear hg_ hnew_;(first|rw [← yC.out] at yA|(simp only [Int.reduceToNat] at yA;rw [← yC.out] at yA));have yu:=Aside0.mk (Kd.jg yA (aM (by repeat (first|(with_reducible first|exact HB.out|apply av|apply ak|apply au|refine aG ?_ xZ.out)|exact HB.out))));have yw:=Aside0.mk (aI (g:=xV) (o:=.cells #[.int .i64 yc,.int .i64 yg,.bool yh,.int .i64 xW,.string xU] 75 (0,0)) (bk_ xS.out) hb);have yx:=Aside0.mk (aK (by repeat (first|(with_reducible first|exact HB.out|apply av|apply ak|apply au|refine aG ?_ xZ.out)|exact HB.out)) hb);clear xS;clear HB;have yJ:=yu;have xS:=yw;have HB:=yx;clear yu yw yx;clear hb yA;have zk:=mq (P:=Tryd.prog) Tryd.underlying92 Tryd.underlying5 Tryd.underlying9 (Kd.oN yJ.out)))
   go_ret
   exact ⟨by first|rfl|(simp [aX,aY] <;> rfl)|(simp [*,aX,aY] <;> rfl),by repeat (first|(with_reducible first|exact HB.out|apply av|apply ak|apply au|refine aG ?_ xZ.out)|exact HB.out)⟩
  ·rw [if_neg c10] at H
   exact absurd H (by simp)
end Go.Proofs.YtnkkbiabloodaaaDoor.GVa
