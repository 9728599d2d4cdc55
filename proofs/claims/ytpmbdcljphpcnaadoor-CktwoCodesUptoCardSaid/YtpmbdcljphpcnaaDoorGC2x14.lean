/- Written by this session's own program (wip/gen.py) out of the translation: plain Lean functions of the Go functions, and proofs that the calls come to their answers. No conditions beside those in the statements. -/
import Derived.Test.YtpmbdcljphpcnaaDoorGC2x0
import Derived.Test.YtpmbdcljphpcnaaDoorGC2x1
import Derived.Test.YtpmbdcljphpcnaaDoorGC2x6
import Derived.Test.YtpmbdcljphpcnaaDoorGC2x7
import Derived.Test.YtpmbdcljphpcnaaDoorGC2x8
import Derived.Test.YtpmbdcljphpcnaaDoorGC2x11
import Derived.Test.YtpmbdcljphpcnaaDoorGC2x13
import Derived.Test.YtpmbdcljphpcnaaDoorGC2Encode
import Derived.Test.YtpmbdcljphpcnaaDoorGC2RSame
import Derived.Test.YtpmbdcljphpcnaaDoorGC2Same
namespace Go.Proofs.YtpmbdcljphpcnaaDoor.GC2
open Go.RowKit Go.Proofs.YtpmbdcljphpcnaaDoorW.PrintWords Go.Proofs.YtpmbdcljphpcnaaDoorW.PrintLast Go.Proofs.YtpmbdcljphpcnaaDoorW.PrintMore
attribute [local go_sem] eY eZ fJ fK eP eT fq fu
set_option linter.unusedVariables false
set_option linter.unusedSimpArgs false
mutual
def aI.j0 : Nat → Bool → Int → List (S98) → Int → List (S98) → Option (Bool)
 | 0,_,_,_,_,_=>none
 | k + 1,FJ,zi,zk,zJ,zK=>if FJ = true then ((cK.f k).bind fun AP=>(some AP)) else ((bF.f k zi zk).bind fun yY=>((bF.f k zJ zK).bind fun yX=>((aJ.f k yY.1 yY.2).bind fun yZ=>((bS.f k zi zk).bind fun zx=>((aM.f k zi zk).bind fun zF=>(if zF = yZ then (if zx.2 = yZ then (if yZ = 0 then ((aN.f k yY.1 yY.2).bind fun zI=>(if zx.1.toList = zI.toList then (aI.j1 k false zi zk zJ zK yY.1 yY.2 yX.1 yX.2) else (aI.j1 k true zi zk zJ zK yY.1 yY.2 yX.1 yX.2))) else (aI.j1 k (zx.1.toList != ([] : List UInt8)) zi zk zJ zK yY.1 yY.2 yX.1 yX.2)) else (aI.j1 k true zi zk zJ zK yY.1 yY.2 yX.1 yX.2)) else (aI.j1 k true zi zk zJ zK yY.1 yY.2 yX.1 yX.2)))))))
def aI.j1 : Nat → Bool → Int → List (S98) → Int → List (S98) → Int → List (S103) → Int → List (S103) → Option (Bool)
 | 0,_,_,_,_,_,_,_,_,_=>none
 | k + 1,FL,zi,zk,zJ,zK,AZ,A9,Bf,Bg=>if FL = true then (some false) else ((cK.f k).bind fun AQ=>(if AQ = true then ((cO.f zi zk zJ zK).bind fun zM=>((dQ.f AZ A9 Bf Bg).bind fun zL=>(if (zM == zL) = true then ((cO.f zi zk zi zk).bind fun zU=>(some zU)) else (some false)))) else (some false)))
end
def aI.f (k : Nat) (xR : Int) (xQ : List (S98)) (xV : Int) (xU : List (S98)) : Option (Bool):=(aW.f k xR xQ).bind fun t222=>(if t222 = true then ((aW.f k xV xU).bind fun Ag=>(aI.j0 k (!Ag) xR xQ xV xU)) else (aI.j0 k true xR xQ xV xU))
theorem aI.dO : ∀ k,(∀ y0 y1 y2 y3 y4,LeO (aI.j0 k y0 y1 y2 y3 y4) (aI.j0 (k + 1) y0 y1 y2 y3 y4)) ∧ (∀ y0 y1 y2 y3 y4 y5 y6 y7 y8,LeO (aI.j1 k y0 y1 y2 y3 y4 y5 y6 y7 y8) (aI.j1 (k + 1) y0 y1 y2 y3 y4 y5 y6 y7 y8))
 | 0=>⟨fun _ _ _ _ _ r h=>by simp [aI.j0] at h,fun _ _ _ _ _ _ _ _ _ r h=>by simp [aI.j1] at h⟩
 | k + 1=>by
  obtain ⟨CQ,ih1⟩:=aI.dO k
  refine ⟨?_,?_⟩
  ·intro y0 y1 y2 y3 y4
   unfold aI.j0
   repeat' first
   | (with_reducible exact CQ _ _ _ _ _)
   | (with_reducible exact ih1 _ _ _ _ _ _ _ _ _)
   | (with_reducible exact cK.mono _)
   | (with_reducible exact bF.mono _ _ _)
   | (with_reducible exact aW.mono _ _ _)
   | (with_reducible exact aN.mono _ _ _)
   | (with_reducible exact aJ.mono _ _ _)
   | (with_reducible exact bS.mono _ _ _)
   | (with_reducible exact aM.mono _ _ _)
   | (with_reducible exact LeO.refl _)
   | (with_reducible exact LeO.none _)
   | (with_reducible refine LeO.ite ?_ ?_)
   | (with_reducible refine LeO.bind ?_ (fun _=>?_))
   | exact CQ _ _ _ _ _
   | exact ih1 _ _ _ _ _ _ _ _ _
   | exact cK.mono _
   | exact bF.mono _ _ _
   | exact aW.mono _ _ _
   | exact aN.mono _ _ _
   | exact aJ.mono _ _ _
   | exact bS.mono _ _ _
   | exact aM.mono _ _ _
   | exact LeO.none _
   | refine LeO.ite ?_ ?_
   | refine LeO.bind ?_ (fun _=>?_)
  ·intro y0 y1 y2 y3 y4 y5 y6 y7 y8
   unfold aI.j1
   repeat' first
   | (with_reducible exact CQ _ _ _ _ _)
   | (with_reducible exact ih1 _ _ _ _ _ _ _ _ _)
   | (with_reducible exact cK.mono _)
   | (with_reducible exact bF.mono _ _ _)
   | (with_reducible exact aW.mono _ _ _)
   | (with_reducible exact aN.mono _ _ _)
   | (with_reducible exact aJ.mono _ _ _)
   | (with_reducible exact bS.mono _ _ _)
   | (with_reducible exact aM.mono _ _ _)
   | (with_reducible exact LeO.refl _)
   | (with_reducible exact LeO.none _)
   | (with_reducible refine LeO.ite ?_ ?_)
   | (with_reducible refine LeO.bind ?_ (fun _=>?_))
   | exact CQ _ _ _ _ _
   | exact ih1 _ _ _ _ _ _ _ _ _
   | exact cK.mono _
   | exact bF.mono _ _ _
   | exact aW.mono _ _ _
   | exact aN.mono _ _ _
   | exact aJ.mono _ _ _
   | exact bS.mono _ _ _
   | exact aM.mono _ _ _
   | exact LeO.none _
   | refine LeO.ite ?_ ?_
   | refine LeO.bind ?_ (fun _=>?_)
theorem aI.mono : ∀ a0 a1 a2 a3 k,LeO (aI.f k a0 a1 a2 a3) (aI.f (k + 1) a0 a1 a2 a3):=by
 intro a0 a1 a2 a3 k
 obtain ⟨CQ,ih1⟩:=aI.dO k
 unfold aI.f
 repeat' first
   | (with_reducible exact CQ _ _ _ _ _)
   | (with_reducible exact ih1 _ _ _ _ _ _ _ _ _)
   | (with_reducible exact cK.mono _)
   | (with_reducible exact bF.mono _ _ _)
   | (with_reducible exact aW.mono _ _ _)
   | (with_reducible exact aN.mono _ _ _)
   | (with_reducible exact aJ.mono _ _ _)
   | (with_reducible exact bS.mono _ _ _)
   | (with_reducible exact aM.mono _ _ _)
   | (with_reducible exact LeO.refl _)
   | (with_reducible exact LeO.none _)
   | (with_reducible refine LeO.ite ?_ ?_)
   | (with_reducible refine LeO.bind ?_ (fun _=>?_))
   | exact CQ _ _ _ _ _
   | exact ih1 _ _ _ _ _ _ _ _ _
   | exact cK.mono _
   | exact bF.mono _ _ _
   | exact aW.mono _ _ _
   | exact aN.mono _ _ _
   | exact aJ.mono _ _ _
   | exact bS.mono _ _ _
   | exact aM.mono _ _ _
   | exact LeO.none _
   | refine LeO.ite ?_ ?_
   | refine LeO.bind ?_ (fun _=>?_)
def aI.T3 : Bool × List (List Nat × List Nat):=(true,[([],[]),([0],[0]),([],[]),([2,1],[2]),([],[]),([],[]),([4,1,3,0,1,4,5],[1,4]),([5,3,6,0,1,2,3,4,5,6],[3,5])])
def aI.B3 : List Nat:=[0,1,0,7,0,0,63,127]
theorem aI.xw : gM .any (opsOf Tryd.f6 3) = aI.T3:=by kernel_rfl
theorem aI.vT : gJ aI.T3.2 aI.B3 = true:=by kernel_rfl
def aI.T8 : Bool × List (List Nat × List Nat):=(true,[([],[]),([0,0],[0]),([1],[1]),([1],[1]),([2,3,1,1],[1,2,3]),([1],[1]),([1],[1]),([5,6,4,1],[1,5,6]),([4,7,1],[1,4,7]),([1,8],[1,8]),([9,7],[9]),([10],[10]),([10],[10]),([11,12,10,10],[10,11,12]),([10,13],[10,13]),([14,13,0,1,2,3,4,5,6,7,8,9,10,11,12,13,14],[14])])
def aI.B8 : List Nat:=[0,1,3,3,15,3,3,127,255,511,1023,2047,2047,8191,16383,32767]
theorem aI.uS : gM .any (opsOf Tryd.f6 8) = aI.T8:=by kernel_rfl
theorem aI.rO : gJ aI.T8.2 aI.B8 = true:=by kernel_rfl
set_option maxHeartbeats 8000000 in
set_option maxRecDepth 100000 in
theorem aI.calls (k : Nat) (xR : Int) (xZ : Option Addr) (yc : Nat) (xQ : List (S98)) (xV : Int) (yw : Option Addr) (yx : Nat) (xU : List (S98)) (r : Bool) (w : World) (Cy : Kd.C k98 w xZ xQ.length xQ) (Cz : xQ.length ≤ yc) (CB : Kd.C k98 w yw xU.length xU) (CF : xU.length ≤ yx) (h : aI.f k xR xQ xV xU = some r) :
  Calls Tryd.prog 6 #[.agg #[.int .u64 xR,.slice xZ xQ.length yc],.agg #[.int .u64 xV,.slice yw xU.length yx]] w fun e w'=>e = .returned (.bool r) ∧ Below w.heap.size w w':=by
 have FM:=Tryd.underlying49
 have FN:=Tryd.underlying53
 have zC:=Aside0.mk Cy
 have zD:=Aside0.mk Cz
 clear Cy Cz
 have Ah:=Aside0.mk CB
 have Ai:=Aside0.mk CF
 clear CB CF
 have HB:=Aside0.mk (Below.refl w.heap.size w)
 have H : ((aW.f k xR xQ).bind fun t222=>(if t222 = true then ((aW.f k xV xU).bind fun Ag=>(aI.j0 k (!Ag) xR xQ xV xU)) else (aI.j0 k true xR xQ xV xU))) = some r:=h
 clear h
 have D6:=Aside0.mk H
 clear H
 go_enter Tryd.func6,Tryd.ntmps6
 go_upto_region 1 with (first|((with_reducible refine dN (N:=2) rfl ?_);refine dK ?hg (N:=2) ?hd (cs:=#[.int .u64 xR,.slice xZ xQ.length yc]) (t:=49) ?hr ?_;(case hd=>rfl);(case hg=>rfl);(case hr=>first|(go_simp;done)|(go_simp;rfl));intro xK hg w4 hbox hb;have yK:=Aside0.mk (aQ (by repeat (first|(with_reducible first|exact HB.out|apply ay|apply aj|apply av)|exact HB.out)) hb);have yL:=Aside0.mk (hbox);have yM:=Aside0.mk ((by rw [hg];exact (aV (by repeat (first|(with_reducible first|exact HB.out|apply ay|apply aj|apply av)|exact HB.out))) : w.heap.size ≤ xK));have yO:=Aside0.mk ((by rw [hg];exact (aV (by repeat (first|(with_reducible first|exact HB.out|apply ay|apply aj|apply av)|exact HB.out))) : w.heap.size ≤ xK));clear HB;have HB:=yK;have xI:=yL;have Eb:=yM;have xW:=yO;clear yK yL yM yO;clear hb hbox hg)|((with_reducible refine dN (N:=3) rfl ?_);refine dK ?hg (N:=3) ?hd (cs:=#[.int .u64 xV,.slice yw xU.length yx]) (t:=49) ?hr ?_;(case hd=>rfl);(case hg=>rfl);(case hr=>first|(go_simp;done)|(go_simp;rfl));intro xL hg w5 hbox hb;have yK:=Aside0.mk (aK (g:=xK) (o:=.cells #[.int .u64 xR,.slice xZ xQ.length yc] 49 (0,0)) (bk_ xI.out) hb);have yL:=Aside0.mk (aQ (by repeat (first|(with_reducible first|exact HB.out|apply ay|apply aj|apply av|refine ak ?_ xW.out)|exact HB.out)) hb);have yM:=Aside0.mk (hbox);have yO:=Aside0.mk ((by rw [hg];exact (aV (by repeat (first|(with_reducible first|exact HB.out|apply ay|apply aj|apply av|refine ak ?_ xW.out)|exact HB.out))) : w.heap.size ≤ xL));have yP:=Aside0.mk ((by rw [hg];exact (aV (by repeat (first|(with_reducible first|exact HB.out|apply ay|apply aj|apply av|refine ak ?_ xW.out)|exact HB.out))) : w.heap.size ≤ xL));have yT:=Aside0.mk ((by rw [hg];exact Nat.ne_of_lt (bP (g:=xK) (o:=.cells #[.int .u64 xR,.slice xZ xQ.length yc] 49 (0,0)) (bk_ xI.out)) : xK ≠ xL));have yU:=Aside0.mk ((by rw [hg];exact Nat.ne_of_gt (bP (g:=xK) (o:=.cells #[.int .u64 xR,.slice xZ xQ.length yc] 49 (0,0)) (bk_ xI.out)) : xL ≠ xK));clear xI;clear HB;have xI:=yK;have HB:=yL;have xJ:=yM;have Ec:=yO;have xY:=yP;have zm:=yT;have zn:=yU;clear yK yL yM yO yP yT yU;clear hb hbox hg))
 (try simp only [Act.put,List.setIfInBounds_toArray,List.set_cons_zero,List.set_cons_succ])
 go_cut [17] (fun v17 wc=>∃ (kq : Nat) (AJ : Bool),v17 = .bool AJ ∧ Aside0 (aI.j0 kq AJ xR xQ xV xU = some r) ∧ Aside0 (kq ≤ k) ∧ Aside0 (wc.heap[xK]? = some (.cells #[.int .u64 xR,(.slice xZ xQ.length yc)] 49 (0,0))) ∧ Aside0 (wc.heap[xL]? = some (.cells #[.int .u64 xV,(.slice yw xU.length yx)] 49 (0,0))) ∧ Aside0 (Below w.heap.size w wc))
 case first =>
  have H:=D6.out
  clear D6
  replace H:=Option.bind_eq_some_iff.mp H
  obtain ⟨t222,Ed,H⟩:=H
  replace H : (if t222 = true then ((aW.f k xV xU).bind fun Ag=>(aI.j0 k (!Ag) xR xQ xV xU)) else (aI.j0 k true xR xQ xV xU)) = some r:=H
  have A6:=Aside0.mk Ed
  clear Ed
  by_cases c7 : t222 = true
  ·subst c7
   have H1 : ((aW.f k xV xU).bind fun Ag=>(aI.j0 k (!Ag) xR xQ xV xU)) = some r:=by rw [if_pos rfl] at H;exact H
   clear H
   have H:=H1
   clear H1
   replace H:=Option.bind_eq_some_iff.mp H
   obtain ⟨Ag,Ee,H⟩:=H
   replace H : (aI.j0 k (!Ag) xR xQ xV xU) = some r:=H
   have A8:=Aside0.mk Ee
   clear Ee
   have H':=Aside0.mk H
   clear H
   have FP:=zm.out
   have FQ:=zn.out
   have Bh : w5.cell? ⟨xK,0,none⟩ = some (.int .u64 xR):=(au xI.out 0).trans rfl
   have Bj : w5.cell? ⟨xK,1,none⟩ = some (.slice xZ xQ.length yc):=(au xI.out 1).trans rfl
   have Bl:=aH xI.out 0
   have Bn:=aH xI.out 1
   go_wp2_with (first|((with_reducible refine bK (f:=22) rfl ?_);refine dH (some 11) rfl rfl Tryd.func22 (by kernel_rfl) rfl #[.agg #[.int .u64 xR,.slice xZ xQ.length yc]] rfl (by (try simp only [List.map_toArray,List.map_cons,List.map_nil]);first|done|rfl|(simp only [List.length_drop,List.length_take];rfl)|(simp (disch:=first|omega|(simp at *;omega)) only [dh,bY,dY];rfl)) ?_;(with_reducible refine (aW.calls k xR _ _ xQ true _ ?yQ ?yR A6.out).mono ?_);(case yQ=>repeat (first|exact (Kd.dW zC.out HB.out)|(with_reducible refine Kd.dw ?_ _)|(with_reducible refine Kd.dX ?_ _)|(with_reducible refine Kd.eu ?_)));(case yR=>exact zD.out);rintro e Ef ⟨rfl,hb⟩;refine ⟨_,rfl,?_⟩;have yK:=Aside0.mk (aK (g:=xK) (o:=.cells #[.int .u64 xR,.slice xZ xQ.length yc] 49 (0,0)) (bk_ xI.out) hb);have yL:=Aside0.mk (aK (g:=xL) (o:=.cells #[.int .u64 xV,.slice yw xU.length yx] 49 (0,0)) (bk_ xJ.out) hb);have yM:=Aside0.mk (aQ (by repeat (first|(with_reducible first|exact HB.out|apply ay|apply aj|apply av|refine ak ?_ xW.out|refine ak ?_ xY.out)|exact HB.out)) hb);clear xI;clear xJ;clear HB;have xI:=yK;have xJ:=yL;have HB:=yM;clear yK yL yM;(try clear hb);(try clear hb2);(try clear hk);(try clear hi);have Bo : Ef.cell? ⟨xL,0,none⟩ = some (.int .u64 xV):=(au xJ.out 0).trans rfl;have Bp : Ef.cell? ⟨xL,1,none⟩ = some (.slice yw xU.length yx):=(au xJ.out 1).trans rfl;have Bq:=aH xJ.out 0;have Br:=aH xJ.out 1)|(go_at_call 22;(with_reducible refine (aW.calls k xV _ _ xU Ag _ ?yQ ?yR A8.out).mono ?_);(case yQ=>repeat (first|exact (Kd.dW Ah.out HB.out)|(with_reducible refine Kd.dw ?_ _)|(with_reducible refine Kd.dX ?_ _)|(with_reducible refine Kd.eu ?_)));(case yR=>exact Ai.out);rintro e Ga ⟨rfl,hb⟩;have yK:=Aside0.mk (aK (g:=xK) (o:=.cells #[.int .u64 xR,.slice xZ xQ.length yc] 49 (0,0)) (bk_ xI.out) hb);have yL:=Aside0.mk (aK (g:=xL) (o:=.cells #[.int .u64 xV,.slice yw xU.length yx] 49 (0,0)) (bk_ xJ.out) hb);have yM:=Aside0.mk (aQ (by repeat (first|(with_reducible first|exact HB.out|apply ay|apply aj|apply av|refine ak ?_ xW.out|refine ak ?_ xY.out)|exact HB.out)) hb);clear xI;clear xJ;clear HB;have xI:=yK;have xJ:=yL;have HB:=yM;clear yK yL yM;(try clear hb);(try clear hb2);(try clear hk);(try clear hi)))
   go_meet
   case rel=>exact ⟨_,(!Ag),(by first|rfl|(simp;done)|(simp [*];done)|exact congrArg Value.bool (bZ _)|exact congrArg Value.bool (bZ _).symm),H',⟨by first|omega|exact Nat.le_refl _⟩,⟨by (with_reducible repeat (first|apply aC|apply aG|apply aA));exact xI.out⟩,⟨by (with_reducible repeat (first|apply aC|apply aG|apply aA));exact xJ.out⟩,⟨by repeat (first|(with_reducible first|exact HB.out|apply ay|apply aj|apply av|refine ak ?_ xW.out|refine ak ?_ xY.out)|exact HB.out)⟩⟩
  ·replace c7:=Bool.eq_false_iff.mpr c7
   subst c7
   have H1 : (aI.j0 k true xR xQ xV xU) = some r:=by rw [if_neg (show ¬ (false = true) by decide)] at H;exact H
   clear H
   have H:=H1
   clear H1
   have H':=Aside0.mk H
   clear H
   have Eh:=zm.out
   have Ei:=zn.out
   have Bt : w5.cell? ⟨xK,0,none⟩ = some (.int .u64 xR):=(au xI.out 0).trans rfl
   have Bu : w5.cell? ⟨xK,1,none⟩ = some (.slice xZ xQ.length yc):=(au xI.out 1).trans rfl
   have Bv:=aH xI.out 0
   have Bw:=aH xI.out 1
   go_wp2_with (first|((with_reducible refine bK (f:=22) rfl ?_);refine dH (some 11) rfl rfl Tryd.func22 (by kernel_rfl) rfl #[.agg #[.int .u64 xR,.slice xZ xQ.length yc]] rfl (by (try simp only [List.map_toArray,List.map_cons,List.map_nil]);first|done|rfl|(simp only [List.length_drop,List.length_take];rfl)|(simp (disch:=first|omega|(simp at *;omega)) only [dh,bY,dY];rfl)) ?_;(with_reducible refine (aW.calls k xR _ _ xQ false _ ?yQ ?yR A6.out).mono ?_);(case yQ=>repeat (first|exact (Kd.dW zC.out HB.out)|(with_reducible refine Kd.dw ?_ _)|(with_reducible refine Kd.dX ?_ _)|(with_reducible refine Kd.eu ?_)));(case yR=>exact zD.out);rintro e w16 ⟨rfl,hb⟩;refine ⟨_,rfl,?_⟩;have yK:=Aside0.mk (aK (g:=xK) (o:=.cells #[.int .u64 xR,.slice xZ xQ.length yc] 49 (0,0)) (bk_ xI.out) hb);have yL:=Aside0.mk (aK (g:=xL) (o:=.cells #[.int .u64 xV,.slice yw xU.length yx] 49 (0,0)) (bk_ xJ.out) hb);have yM:=Aside0.mk (aQ (by repeat (first|(with_reducible first|exact HB.out|apply ay|apply aj|apply av|refine ak ?_ xW.out|refine ak ?_ xY.out)|exact HB.out)) hb);clear xI;clear xJ;clear HB;have xI:=yK;have xJ:=yL;have HB:=yM;clear yK yL yM;(try clear hb);(try clear hb2);(try clear hk);(try clear hi)))
   go_meet
   case rel=>exact ⟨_,(true),(by first|rfl|(simp;done)|(simp [*];done)|exact congrArg Value.bool (bZ _)|exact congrArg Value.bool (bZ _).symm),H',⟨by first|omega|exact Nat.le_refl _⟩,⟨by (with_reducible repeat (first|apply aC|apply aG|apply aA));exact xI.out⟩,⟨by (with_reducible repeat (first|apply aC|apply aG|apply aA));exact xJ.out⟩,⟨by repeat (first|(with_reducible first|exact HB.out|apply ay|apply aj|apply av|refine ak ?_ xW.out|refine ak ?_ xY.out)|exact HB.out)⟩⟩
 case rest =>
  clear D6
  try clear c1
  try clear c2
  try clear p2
  try clear c6
  try clear c7
  try clear c9
  try clear c14
  try clear Bh
  try clear Bj
  try clear Bo
  try clear Bp
  try clear Bt
  try clear Bu
  try clear Bl
  try clear Bn
  try clear Bq
  try clear Br
  try clear Bv
  try clear Bw
  obtain ⟨kq,AJ,rfl,HA,HJ2,xI,xJ,HB⟩:=hcut
  cases kq with
  | zero=>exact absurd HA.out (by simp [aI.j0])
  | succ zh =>
   have H:=HA.out
   clear HA
   simp only [aI.j0] at H
   by_cases c17 : AJ = true
   ·subst c17
    have H1 : ((cK.f zh).bind fun AP=>(some AP)) = some r:=by rw [if_pos rfl] at H;exact H
    clear H
    have H:=H1
    clear H1
    replace H:=Option.bind_eq_some_iff.mp H
    obtain ⟨AP,CU,H⟩:=H
    replace H : (some AP) = some r:=H
    have FR:=Aside0.mk CU
    clear CU
    obtain rfl:=Option.some.inj H
    go_wp2_with (first|((with_reducible refine bK (f:=23) rfl ?_);refine dH (some 18) rfl rfl Tryd.func23 (by kernel_rfl) rfl #[] rfl (by (try simp only [List.map_toArray,List.map_cons,List.map_nil]);first|done|rfl|(simp only [List.length_drop,List.length_take];rfl)|(simp (disch:=first|omega|(simp at *;omega)) only [dh,bY,dY];rfl)) ?_;(with_reducible refine (cK.calls zh  AP _ FR.out).mono ?_);rintro e Gb ⟨rfl,hb⟩;refine ⟨_,rfl,?_⟩;have yK:=Aside0.mk (aK (g:=xK) (o:=.cells #[.int .u64 xR,.slice xZ xQ.length yc] 49 (0,0)) (bk_ xI.out) hb);have yL:=Aside0.mk (aK (g:=xL) (o:=.cells #[.int .u64 xV,.slice yw xU.length yx] 49 (0,0)) (bk_ xJ.out) hb);have yM:=Aside0.mk (aQ (by repeat (first|(with_reducible first|exact HB.out|apply ay|apply aj|apply av|refine ak ?_ xW.out|refine ak ?_ xY.out)|exact HB.out)) hb);clear xI;clear xJ;clear HB;have xI:=yK;have xJ:=yL;have HB:=yM;clear yK yL yM;(try clear hb);(try clear hb2);(try clear hk);(try clear hi)))
    go_ret
    exact ⟨by first|rfl|(simp [aZ,bf] <;> rfl)|(simp [*,aZ,bf] <;> rfl),by repeat (first|(with_reducible first|exact HB.out|apply ay|apply aj|apply av|refine ak ?_ xW.out|refine ak ?_ xY.out)|exact HB.out)⟩
   ·replace c17:=Bool.eq_false_iff.mpr c17
    subst c17
    have H1 : ((bF.f zh xR xQ).bind fun yY=>((bF.f zh xV xU).bind fun yX=>((aJ.f zh yY.1 yY.2).bind fun yZ=>((bS.f zh xR xQ).bind fun zx=>((aM.f zh xR xQ).bind fun zF=>(if zF = yZ then (if zx.2 = yZ then (if yZ = 0 then ((aN.f zh yY.1 yY.2).bind fun zI=>(if zx.1.toList = zI.toList then (aI.j1 zh false xR xQ xV xU yY.1 yY.2 yX.1 yX.2) else (aI.j1 zh true xR xQ xV xU yY.1 yY.2 yX.1 yX.2))) else (aI.j1 zh (zx.1.toList != ([] : List UInt8)) xR xQ xV xU yY.1 yY.2 yX.1 yX.2)) else (aI.j1 zh true xR xQ xV xU yY.1 yY.2 yX.1 yX.2)) else (aI.j1 zh true xR xQ xV xU yY.1 yY.2 yX.1 yX.2))))))) = some r:=by rw [if_neg (show ¬ (false = true) by decide)] at H;exact H
    clear H
    have H:=H1
    clear H1
    replace H:=Option.bind_eq_some_iff.mp H
    obtain ⟨⟨yN,t226⟩,CV,H⟩:=H
    replace H : ((bF.f zh xV xU).bind fun yX=>((aJ.f zh yN t226).bind fun yZ=>((bS.f zh xR xQ).bind fun zx=>((aM.f zh xR xQ).bind fun zF=>(if zF = yZ then (if zx.2 = yZ then (if yZ = 0 then ((aN.f zh yN t226).bind fun zI=>(if zx.1.toList = zI.toList then (aI.j1 zh false xR xQ xV xU yN t226 yX.1 yX.2) else (aI.j1 zh true xR xQ xV xU yN t226 yX.1 yX.2))) else (aI.j1 zh (zx.1.toList != ([] : List UInt8)) xR xQ xV xU yN t226 yX.1 yX.2)) else (aI.j1 zh true xR xQ xV xU yN t226 yX.1 yX.2)) else (aI.j1 zh true xR xQ xV xU yN t226 yX.1 yX.2)))))) = some r:=H
    have Dp:=Aside0.mk CV
    clear CV
    replace H:=Option.bind_eq_some_iff.mp H
    obtain ⟨⟨t229,yS⟩,CW,H⟩:=H
    replace H : ((aJ.f zh yN t226).bind fun yZ=>((bS.f zh xR xQ).bind fun zx=>((aM.f zh xR xQ).bind fun zF=>(if zF = yZ then (if zx.2 = yZ then (if yZ = 0 then ((aN.f zh yN t226).bind fun zI=>(if zx.1.toList = zI.toList then (aI.j1 zh false xR xQ xV xU yN t226 t229 yS) else (aI.j1 zh true xR xQ xV xU yN t226 t229 yS))) else (aI.j1 zh (zx.1.toList != ([] : List UInt8)) xR xQ xV xU yN t226 t229 yS)) else (aI.j1 zh true xR xQ xV xU yN t226 t229 yS)) else (aI.j1 zh true xR xQ xV xU yN t226 t229 yS))))) = some r:=H
    have Dq:=Aside0.mk CW
    clear CW
    replace H:=Option.bind_eq_some_iff.mp H
    obtain ⟨yZ,CX,H⟩:=H
    replace H : ((bS.f zh xR xQ).bind fun zx=>((aM.f zh xR xQ).bind fun zF=>(if zF = yZ then (if zx.2 = yZ then (if yZ = 0 then ((aN.f zh yN t226).bind fun zI=>(if zx.1.toList = zI.toList then (aI.j1 zh false xR xQ xV xU yN t226 t229 yS) else (aI.j1 zh true xR xQ xV xU yN t226 t229 yS))) else (aI.j1 zh (zx.1.toList != ([] : List UInt8)) xR xQ xV xU yN t226 t229 yS)) else (aI.j1 zh true xR xQ xV xU yN t226 t229 yS)) else (aI.j1 zh true xR xQ xV xU yN t226 t229 yS)))) = some r:=H
    have FT:=Aside0.mk CX
    clear CX
    replace H:=Option.bind_eq_some_iff.mp H
    obtain ⟨⟨t236,Am⟩,CY,H⟩:=H
    replace H : ((aM.f zh xR xQ).bind fun zF=>(if zF = yZ then (if Am = yZ then (if yZ = 0 then ((aN.f zh yN t226).bind fun zI=>(if t236.toList = zI.toList then (aI.j1 zh false xR xQ xV xU yN t226 t229 yS) else (aI.j1 zh true xR xQ xV xU yN t226 t229 yS))) else (aI.j1 zh (t236.toList != ([] : List UInt8)) xR xQ xV xU yN t226 t229 yS)) else (aI.j1 zh true xR xQ xV xU yN t226 t229 yS)) else (aI.j1 zh true xR xQ xV xU yN t226 t229 yS))) = some r:=H
    have FU:=Aside0.mk CY
    clear CY
    have CS:=Aside0.mk H
    clear H
    try go_wp2
    have yK:=Aside0.mk (aG xI.out)
    have yL:=Aside0.mk (aG xJ.out)
    have yM:=Aside0.mk (av HB.out)
    clear xI
    clear xJ
    clear HB
    have xI:=yK
    have xJ:=yL
    have HB:=yM
    clear yK yL yM
    refine iM (n:=8) (S:=fun w'=>w'.cell? ⟨xK,0,none⟩ = some (.int .u64 xR) ∧ w'.cell? ⟨xK,1,none⟩ = some (.slice xZ xQ.length yc) ∧ w'.cell? ⟨xL,0,none⟩ = some (.int .u64 xV) ∧ w'.cell? ⟨xL,1,none⟩ = some (.slice yw xU.length yx)) (ds:=[]) #[false,false,false,false,false,false,false,false] (by kernel_rfl) rfl rfl ⟨(au xI.out 0).trans rfl,(au xI.out 1).trans rfl,(au xJ.out 0).trans rfl,(au xJ.out 1).trans rfl⟩ (fun hHeld=>?_);refine fP aI.xw aI.vT (fun HT_ HW_=>?_)
    generalize wc.drew = Gc at xI xJ HB hHeld ⊢
    refine eX (i:=0) (N:=some 19) (v:=?_) (a':=?_) #[true,false,false,false,false,false,false,false] rfl rfl (dR HT_.out HW_.out (by kernel_rfl)) (fun _ _ _ h=>h) (Or.inl ⟨by rfl,?_⟩) hHeld ?_ ?_
    rotate_left
    ·rintro w' ⟨s0,s1,s2,s3⟩
     go_simp
     with_reducible rfl
    rotate_left
    ·simp only [Act.put,List.setIfInBounds_toArray,List.set_cons_zero,List.set_cons_succ,bD,bG]
     rfl
    refine eX (i:=2) (N:=some 21) (v:=?_) (a':=?_) #[true,false,true,false,false,false,false,false] rfl rfl (dR HT_.out HW_.out (by kernel_rfl)) (fun _ _ _ h=>h) (Or.inl ⟨by rfl,?_⟩) hHeld ?_ ?_
    rotate_left
    ·rintro w' ⟨s0,s1,s2,s3⟩
     go_simp
     with_reducible rfl
    rotate_left
    ·simp only [Act.put,List.setIfInBounds_toArray,List.set_cons_zero,List.set_cons_succ,bD,bG]
     rfl
    refine fE (σ:=Value × Value × Nat × Nat) 2 #[true,true,true,true,true,true,false,false] (fun s_=>[(20,.agg #[.int .u64 yN,s_.1]),(22,.agg #[.int .u64 t229,s_.2.1]),(5,.pointer (some ⟨s_.2.2.1,0,none⟩)),(6,.pointer (some ⟨s_.2.2.2,0,none⟩))]) (fun s_ w'=>(w'.cell? ⟨xK,0,none⟩ = some (.int .u64 xR) ∧ w'.cell? ⟨xK,1,none⟩ = some (.slice xZ xQ.length yc) ∧ w'.cell? ⟨xL,0,none⟩ = some (.int .u64 xV) ∧ w'.cell? ⟨xL,1,none⟩ = some (.slice yw xU.length yx)) ∧ (Kd.S fA 103 w' w.heap.size (fun k_=>some k_ ≠ (s_.2.1 : Value).ownBlock) s_.1 t226) ∧ (Kd.S fA 103 w' w.heap.size (fun k_=>some k_ ≠ (s_.1 : Value).ownBlock) s_.2.1 yS) ∧ (w'.heap[xK]? = some (.cells #[.int .u64 xR,.slice xZ xQ.length yc] 49 (0,0))) ∧ (w'.heap[xL]? = some (.cells #[.int .u64 xV,.slice yw xU.length yx] 49 (0,0))) ∧ (w'.heap[s_.2.2.1]? = some (.cells #[.int .u64 0,.slice none 0 0] 53 (0,0))) ∧ (w'.heap[s_.2.2.2]? = some (.cells #[.int .u64 0,.slice none 0 0] 53 (0,0))) ∧ (w.heap.size ≤ s_.2.2.1) ∧ (w.heap.size ≤ s_.2.2.1) ∧ (xK ≠ s_.2.2.1) ∧ (s_.2.2.1 ≠ xK) ∧ (xL ≠ s_.2.2.1) ∧ (s_.2.2.1 ≠ xL) ∧ (s_.2.2.2 ≠ s_.2.2.1) ∧ (s_.2.2.1 ≠ s_.2.2.2) ∧ (w.heap.size ≤ s_.2.2.2) ∧ (w.heap.size ≤ s_.2.2.2) ∧ (xK ≠ s_.2.2.2) ∧ (s_.2.2.2 ≠ xK) ∧ (xL ≠ s_.2.2.2) ∧ (s_.2.2.2 ≠ xL) ∧ (Below w.heap.size w w')) ?_ ?_
    rotate_left
    ·intro z8
     refine fE (σ:=Value × Value × Nat) 3 #[true,true,true,true,true,false,false,false] (fun s_=>[(20,.agg #[.int .u64 yN,s_.1]),(22,.agg #[.int .u64 t229,s_.2.1]),(5,.pointer (some ⟨s_.2.2,0,none⟩))]) (fun s_ w'=>(w'.cell? ⟨xK,0,none⟩ = some (.int .u64 xR) ∧ w'.cell? ⟨xK,1,none⟩ = some (.slice xZ xQ.length yc) ∧ w'.cell? ⟨xL,0,none⟩ = some (.int .u64 xV) ∧ w'.cell? ⟨xL,1,none⟩ = some (.slice yw xU.length yx)) ∧ (Kd.S fA 103 w' w.heap.size (fun k_=>some k_ ≠ (s_.2.1 : Value).ownBlock) s_.1 t226) ∧ (Kd.S fA 103 w' w.heap.size (fun k_=>some k_ ≠ (s_.1 : Value).ownBlock) s_.2.1 yS) ∧ (w'.heap[xK]? = some (.cells #[.int .u64 xR,.slice xZ xQ.length yc] 49 (0,0))) ∧ (w'.heap[xL]? = some (.cells #[.int .u64 xV,.slice yw xU.length yx] 49 (0,0))) ∧ (w'.heap[s_.2.2]? = some (.cells #[.int .u64 0,.slice none 0 0] 53 (0,0))) ∧ (w.heap.size ≤ s_.2.2) ∧ (w.heap.size ≤ s_.2.2) ∧ (xK ≠ s_.2.2) ∧ (s_.2.2 ≠ xK) ∧ (xL ≠ s_.2.2) ∧ (s_.2.2 ≠ xL) ∧ (Below w.heap.size w w')) ?_ ?_
     rotate_left
     ·intro AL
      refine fE (σ:=Value × Value × Nat) 3 #[true,true,true,true,false,true,false,false] (fun s_=>[(20,.agg #[.int .u64 yN,s_.1]),(22,.agg #[.int .u64 t229,s_.2.1]),(6,.pointer (some ⟨s_.2.2,0,none⟩))]) (fun s_ w'=>(w'.cell? ⟨xK,0,none⟩ = some (.int .u64 xR) ∧ w'.cell? ⟨xK,1,none⟩ = some (.slice xZ xQ.length yc) ∧ w'.cell? ⟨xL,0,none⟩ = some (.int .u64 xV) ∧ w'.cell? ⟨xL,1,none⟩ = some (.slice yw xU.length yx)) ∧ (Kd.S fA 103 w' w.heap.size (fun k_=>some k_ ≠ (s_.2.1 : Value).ownBlock) s_.1 t226) ∧ (Kd.S fA 103 w' w.heap.size (fun k_=>some k_ ≠ (s_.1 : Value).ownBlock) s_.2.1 yS) ∧ (w'.heap[xK]? = some (.cells #[.int .u64 xR,.slice xZ xQ.length yc] 49 (0,0))) ∧ (w'.heap[xL]? = some (.cells #[.int .u64 xV,.slice yw xU.length yx] 49 (0,0))) ∧ (w'.heap[s_.2.2]? = some (.cells #[.int .u64 0,.slice none 0 0] 53 (0,0))) ∧ (w.heap.size ≤ s_.2.2) ∧ (w.heap.size ≤ s_.2.2) ∧ (xK ≠ s_.2.2) ∧ (s_.2.2 ≠ xK) ∧ (xL ≠ s_.2.2) ∧ (s_.2.2 ≠ xL) ∧ (Below w.heap.size w w')) ?_ ?_
      rotate_left
      ·intro AO
       refine fE (σ:=Value × Nat × Nat) 3 #[true,true,true,false,true,true,false,false] (fun s_=>[(20,.agg #[.int .u64 yN,s_.1]),(5,.pointer (some ⟨s_.2.1,0,none⟩)),(6,.pointer (some ⟨s_.2.2,0,none⟩))]) (fun s_ w'=>(w'.cell? ⟨xK,0,none⟩ = some (.int .u64 xR) ∧ w'.cell? ⟨xK,1,none⟩ = some (.slice xZ xQ.length yc) ∧ w'.cell? ⟨xL,0,none⟩ = some (.int .u64 xV) ∧ w'.cell? ⟨xL,1,none⟩ = some (.slice yw xU.length yx)) ∧ (Kd.S fA 103 w' w.heap.size (fun _=>True) s_.1 t226) ∧ (w'.heap[xK]? = some (.cells #[.int .u64 xR,.slice xZ xQ.length yc] 49 (0,0))) ∧ (w'.heap[xL]? = some (.cells #[.int .u64 xV,.slice yw xU.length yx] 49 (0,0))) ∧ (w'.heap[s_.2.1]? = some (.cells #[.int .u64 0,.slice none 0 0] 53 (0,0))) ∧ (w'.heap[s_.2.2]? = some (.cells #[.int .u64 0,.slice none 0 0] 53 (0,0))) ∧ (w.heap.size ≤ s_.2.1) ∧ (w.heap.size ≤ s_.2.1) ∧ (xK ≠ s_.2.1) ∧ (s_.2.1 ≠ xK) ∧ (xL ≠ s_.2.1) ∧ (s_.2.1 ≠ xL) ∧ (s_.2.2 ≠ s_.2.1) ∧ (s_.2.1 ≠ s_.2.2) ∧ (w.heap.size ≤ s_.2.2) ∧ (w.heap.size ≤ s_.2.2) ∧ (xK ≠ s_.2.2) ∧ (s_.2.2 ≠ xK) ∧ (xL ≠ s_.2.2) ∧ (s_.2.2 ≠ xL) ∧ (Below w.heap.size w w')) ?_ ?_
       rotate_left
       ·intro Ak
        refine fE (σ:=Value × Value) 4 #[true,true,true,true,false,false,false,false] (fun s_=>[(20,.agg #[.int .u64 yN,s_.1]),(22,.agg #[.int .u64 t229,s_.2])]) (fun s_ w'=>(w'.cell? ⟨xK,0,none⟩ = some (.int .u64 xR) ∧ w'.cell? ⟨xK,1,none⟩ = some (.slice xZ xQ.length yc) ∧ w'.cell? ⟨xL,0,none⟩ = some (.int .u64 xV) ∧ w'.cell? ⟨xL,1,none⟩ = some (.slice yw xU.length yx)) ∧ (Kd.S fA 103 w' w.heap.size (fun k_=>some k_ ≠ (s_.2 : Value).ownBlock) s_.1 t226) ∧ (Kd.S fA 103 w' w.heap.size (fun k_=>some k_ ≠ (s_.1 : Value).ownBlock) s_.2 yS) ∧ (w'.heap[xK]? = some (.cells #[.int .u64 xR,.slice xZ xQ.length yc] 49 (0,0))) ∧ (w'.heap[xL]? = some (.cells #[.int .u64 xV,.slice yw xU.length yx] 49 (0,0))) ∧ (Below w.heap.size w w')) ?_ ?_
        rotate_left
        ·intro CZ
         refine fE (σ:=Value × Nat) 4 #[true,true,true,false,true,false,false,false] (fun s_=>[(20,.agg #[.int .u64 yN,s_.1]),(5,.pointer (some ⟨s_.2,0,none⟩))]) (fun s_ w'=>(w'.cell? ⟨xK,0,none⟩ = some (.int .u64 xR) ∧ w'.cell? ⟨xK,1,none⟩ = some (.slice xZ xQ.length yc) ∧ w'.cell? ⟨xL,0,none⟩ = some (.int .u64 xV) ∧ w'.cell? ⟨xL,1,none⟩ = some (.slice yw xU.length yx)) ∧ (Kd.S fA 103 w' w.heap.size (fun _=>True) s_.1 t226) ∧ (w'.heap[xK]? = some (.cells #[.int .u64 xR,.slice xZ xQ.length yc] 49 (0,0))) ∧ (w'.heap[xL]? = some (.cells #[.int .u64 xV,.slice yw xU.length yx] 49 (0,0))) ∧ (w'.heap[s_.2]? = some (.cells #[.int .u64 0,.slice none 0 0] 53 (0,0))) ∧ (w.heap.size ≤ s_.2) ∧ (w.heap.size ≤ s_.2) ∧ (xK ≠ s_.2) ∧ (s_.2 ≠ xK) ∧ (xL ≠ s_.2) ∧ (s_.2 ≠ xL) ∧ (Below w.heap.size w w')) ?_ ?_
         rotate_left
         ·intro CG
          refine fE (σ:=Value × Nat) 4 #[true,true,true,false,false,true,false,false] (fun s_=>[(20,.agg #[.int .u64 yN,s_.1]),(6,.pointer (some ⟨s_.2,0,none⟩))]) (fun s_ w'=>(w'.cell? ⟨xK,0,none⟩ = some (.int .u64 xR) ∧ w'.cell? ⟨xK,1,none⟩ = some (.slice xZ xQ.length yc) ∧ w'.cell? ⟨xL,0,none⟩ = some (.int .u64 xV) ∧ w'.cell? ⟨xL,1,none⟩ = some (.slice yw xU.length yx)) ∧ (Kd.S fA 103 w' w.heap.size (fun _=>True) s_.1 t226) ∧ (w'.heap[xK]? = some (.cells #[.int .u64 xR,.slice xZ xQ.length yc] 49 (0,0))) ∧ (w'.heap[xL]? = some (.cells #[.int .u64 xV,.slice yw xU.length yx] 49 (0,0))) ∧ (w'.heap[s_.2]? = some (.cells #[.int .u64 0,.slice none 0 0] 53 (0,0))) ∧ (w.heap.size ≤ s_.2) ∧ (w.heap.size ≤ s_.2) ∧ (xK ≠ s_.2) ∧ (s_.2 ≠ xK) ∧ (xL ≠ s_.2) ∧ (s_.2 ≠ xL) ∧ (Below w.heap.size w w')) ?_ ?_
          rotate_left
          ·intro CJ
           refine fE (σ:=Nat × Nat) 4 #[true,false,true,false,true,true,false,false] (fun s_=>[(5,.pointer (some ⟨s_.1,0,none⟩)),(6,.pointer (some ⟨s_.2,0,none⟩))]) (fun s_ w'=>(w'.cell? ⟨xK,0,none⟩ = some (.int .u64 xR) ∧ w'.cell? ⟨xK,1,none⟩ = some (.slice xZ xQ.length yc) ∧ w'.cell? ⟨xL,0,none⟩ = some (.int .u64 xV) ∧ w'.cell? ⟨xL,1,none⟩ = some (.slice yw xU.length yx)) ∧ (w'.heap[xK]? = some (.cells #[.int .u64 xR,.slice xZ xQ.length yc] 49 (0,0))) ∧ (w'.heap[xL]? = some (.cells #[.int .u64 xV,.slice yw xU.length yx] 49 (0,0))) ∧ (w'.heap[s_.1]? = some (.cells #[.int .u64 0,.slice none 0 0] 53 (0,0))) ∧ (w'.heap[s_.2]? = some (.cells #[.int .u64 0,.slice none 0 0] 53 (0,0))) ∧ (w.heap.size ≤ s_.1) ∧ (w.heap.size ≤ s_.1) ∧ (xK ≠ s_.1) ∧ (s_.1 ≠ xK) ∧ (xL ≠ s_.1) ∧ (s_.1 ≠ xL) ∧ (s_.2 ≠ s_.1) ∧ (s_.1 ≠ s_.2) ∧ (w.heap.size ≤ s_.2) ∧ (w.heap.size ≤ s_.2) ∧ (xK ≠ s_.2) ∧ (s_.2 ≠ xK) ∧ (xL ≠ s_.2) ∧ (s_.2 ≠ xL) ∧ (Below w.heap.size w w')) ?_ ?_
           rotate_left
           ·intro CK
            refine fE (σ:=Value) 5 #[true,true,true,false,false,false,false,false] (fun s_=>[(20,.agg #[.int .u64 yN,s_])]) (fun s_ w'=>(w'.cell? ⟨xK,0,none⟩ = some (.int .u64 xR) ∧ w'.cell? ⟨xK,1,none⟩ = some (.slice xZ xQ.length yc) ∧ w'.cell? ⟨xL,0,none⟩ = some (.int .u64 xV) ∧ w'.cell? ⟨xL,1,none⟩ = some (.slice yw xU.length yx)) ∧ (Kd.S fA 103 w' w.heap.size (fun _=>True) s_ t226) ∧ (w'.heap[xK]? = some (.cells #[.int .u64 xR,.slice xZ xQ.length yc] 49 (0,0))) ∧ (w'.heap[xL]? = some (.cells #[.int .u64 xV,.slice yw xU.length yx] 49 (0,0))) ∧ (Below w.heap.size w w')) ?_ ?_
            rotate_left
            ·intro FV
             refine fE (σ:=Nat) 5 #[true,false,true,false,true,false,false,false] (fun s_=>[(5,.pointer (some ⟨s_,0,none⟩))]) (fun s_ w'=>(w'.cell? ⟨xK,0,none⟩ = some (.int .u64 xR) ∧ w'.cell? ⟨xK,1,none⟩ = some (.slice xZ xQ.length yc) ∧ w'.cell? ⟨xL,0,none⟩ = some (.int .u64 xV) ∧ w'.cell? ⟨xL,1,none⟩ = some (.slice yw xU.length yx)) ∧ (w'.heap[xK]? = some (.cells #[.int .u64 xR,.slice xZ xQ.length yc] 49 (0,0))) ∧ (w'.heap[xL]? = some (.cells #[.int .u64 xV,.slice yw xU.length yx] 49 (0,0))) ∧ (w'.heap[s_]? = some (.cells #[.int .u64 0,.slice none 0 0] 53 (0,0))) ∧ (w.heap.size ≤ s_) ∧ (w.heap.size ≤ s_) ∧ (xK ≠ s_) ∧ (s_ ≠ xK) ∧ (xL ≠ s_) ∧ (s_ ≠ xL) ∧ (Below w.heap.size w w')) ?_ ?_
             rotate_left
             ·intro FW
              refine fE (σ:=Nat) 5 #[true,false,true,false,false,true,false,false] (fun s_=>[(6,.pointer (some ⟨s_,0,none⟩))]) (fun s_ w'=>(w'.cell? ⟨xK,0,none⟩ = some (.int .u64 xR) ∧ w'.cell? ⟨xK,1,none⟩ = some (.slice xZ xQ.length yc) ∧ w'.cell? ⟨xL,0,none⟩ = some (.int .u64 xV) ∧ w'.cell? ⟨xL,1,none⟩ = some (.slice yw xU.length yx)) ∧ (w'.heap[xK]? = some (.cells #[.int .u64 xR,.slice xZ xQ.length yc] 49 (0,0))) ∧ (w'.heap[xL]? = some (.cells #[.int .u64 xV,.slice yw xU.length yx] 49 (0,0))) ∧ (w'.heap[s_]? = some (.cells #[.int .u64 0,.slice none 0 0] 53 (0,0))) ∧ (w.heap.size ≤ s_) ∧ (w.heap.size ≤ s_) ∧ (xK ≠ s_) ∧ (s_ ≠ xK) ∧ (xL ≠ s_) ∧ (s_ ≠ xL) ∧ (Below w.heap.size w w')) ?_ ?_
              rotate_left
              ·intro FX
               refine qN (i:=1) (j:=4) (k:=5) (Ni:=some 20) (Nj:=some 5) (Nk:=some 6) #[true,true,true,false,false,false,false,false] #[true,false,true,false,true,false,false,false] #[true,false,true,false,false,true,false,false] rfl rfl rfl rfl rfl rfl (nK HT_.out (by kernel_rfl)) (by decide) (by decide) (by decide) (fun K hK=>?_) (fun K hK=>?_) (fun K hK=>?_)
               ·skip
                refine eD Tryd.func24 (by kernel_rfl) rfl #[.agg #[.int .u64 xR,.slice xZ xQ.length yc]] (by rfl) rfl rfl (by (try simp only [List.map_toArray,List.map_cons,List.map_nil]);first|done|rfl|(simp only [List.length_drop,List.length_take];rfl)) ?_
                with_reducible refine (bF.calls zh xR _ _ xQ yN t226 _ ?yQ ?yR Dp.out).mono ?_
                (case yQ=>repeat (first|exact (Kd.dW zC.out HB.out)|(with_reducible refine Kd.dw ?_ _)|(with_reducible refine Kd.dX ?_ _)|(with_reducible refine Kd.eu ?_)))
                (case yR=>exact zD.out)
                rintro e Ej ⟨v227,rfl,ho0,hb⟩
                refine ⟨_,rfl,?_⟩
                have yK:=Aside0.mk (Kd.iI ho0 (aV (by repeat (first|(with_reducible first|exact HB.out|apply ay|apply aj|apply av|refine ak ?_ xW.out|refine ak ?_ xY.out)|exact HB.out))))
                have yL:=Aside0.mk (aK (g:=xK) (o:=.cells #[.int .u64 xR,.slice xZ xQ.length yc] 49 (0,0)) (bk_ xI.out) hb)
                have yM:=Aside0.mk (aK (g:=xL) (o:=.cells #[.int .u64 xV,.slice yw xU.length yx] 49 (0,0)) (bk_ xJ.out) hb)
                have yO:=Aside0.mk (aQ (by repeat (first|(with_reducible first|exact HB.out|apply ay|apply aj|apply av|refine ak ?_ xW.out|refine ak ?_ xY.out)|exact HB.out)) hb)
                clear xI
                clear xJ
                clear HB
                have xX:=yK
                have xI:=yL
                have xJ:=yM
                have HB:=yO
                clear yK yL yM yO
                (try clear hb)
                (try clear hb2)
                (try clear hk)
                (try clear hi)
                (try clear ho0)
                refine hK.out _ _ ⟨(au xI.out 0).trans rfl,(au xI.out 1).trans rfl,(au xJ.out 0).trans rfl,(au xJ.out 1).trans rfl⟩ (fun hHeld=>?_)
                clear hK K
                refine bV (a':=?_) ?_ ?_
                rotate_left
                ·show Act.put _ (some 20) _ = _
                 simp only [Act.put,List.setIfInBounds_toArray,List.set_cons_zero,List.set_cons_succ,bD,bG]
                 rfl
                exact bV (by first|(simp only [bL,Act.put,List.setIfInBounds_toArray,List.set_cons_zero,List.set_cons_succ];done)|(simp only [bL,Act.put,List.setIfInBounds_toArray,List.set_cons_zero,List.set_cons_succ];rfl)) (FV (v227) _ ⟨hHeld,(by (with_reducible repeat (first|apply Kd.bM|apply Kd.bN|apply Kd.bW));exact xX.out),(bk_ xI.out),(bk_ xJ.out),(by repeat (first|(with_reducible first|exact HB.out|apply ay|apply aj|apply av|refine ak ?_ xW.out|refine ak ?_ xY.out)|exact HB.out))⟩)
               ·skip
                refine fM ?hg (N:=5) ?hd (cs:=#[.int .u64 0,.slice none 0 0]) (t:=53) ?hr ?_;(case hd=>rfl);(case hg=>rfl);(case hr=>first|(go_simp;done)|(go_simp;rfl))
                intro xM hg Ej hbox hb
                have yK:=Aside0.mk (aK (g:=xK) (o:=.cells #[.int .u64 xR,.slice xZ xQ.length yc] 49 (0,0)) (bk_ xI.out) hb)
                have yL:=Aside0.mk (aK (g:=xL) (o:=.cells #[.int .u64 xV,.slice yw xU.length yx] 49 (0,0)) (bk_ xJ.out) hb)
                have yM:=Aside0.mk (aQ (by repeat (first|(with_reducible first|exact HB.out|apply ay|apply aj|apply av|refine ak ?_ xW.out|refine ak ?_ xY.out)|exact HB.out)) hb)
                have yO:=Aside0.mk (hbox)
                have yP:=Aside0.mk ((by rw [hg];exact (aV (by repeat (first|(with_reducible first|exact HB.out|apply ay|apply aj|apply av|refine ak ?_ xW.out|refine ak ?_ xY.out)|exact HB.out))) : w.heap.size ≤ xM))
                have yT:=Aside0.mk ((by rw [hg];exact (aV (by repeat (first|(with_reducible first|exact HB.out|apply ay|apply aj|apply av|refine ak ?_ xW.out|refine ak ?_ xY.out)|exact HB.out))) : w.heap.size ≤ xM))
                have yU:=Aside0.mk ((by rw [hg];exact Nat.ne_of_lt (bP (g:=xK) (o:=.cells #[.int .u64 xR,.slice xZ xQ.length yc] 49 (0,0)) (bk_ xI.out)) : xK ≠ xM))
                have zo:=Aside0.mk ((by rw [hg];exact Nat.ne_of_gt (bP (g:=xK) (o:=.cells #[.int .u64 xR,.slice xZ xQ.length yc] 49 (0,0)) (bk_ xI.out)) : xM ≠ xK))
                have zq:=Aside0.mk ((by rw [hg];exact Nat.ne_of_lt (bP (g:=xL) (o:=.cells #[.int .u64 xV,.slice yw xU.length yx] 49 (0,0)) (bk_ xJ.out)) : xL ≠ xM))
                have zu:=Aside0.mk ((by rw [hg];exact Nat.ne_of_gt (bP (g:=xL) (o:=.cells #[.int .u64 xV,.slice yw xU.length yx] 49 (0,0)) (bk_ xJ.out)) : xM ≠ xL))
                clear xI
                clear xJ
                clear HB
                have xI:=yK
                have xJ:=yL
                have HB:=yM
                have xP:=yO
                have ze:=yP
                have yA:=yT
                have yj:=yU
                have yC:=zo
                have yu:=zq
                have yF:=zu
                clear yK yL yM yO yP yT yU zo zq zu
                clear hb hbox hg
                refine hK.out _ _ ⟨(au xI.out 0).trans rfl,(au xI.out 1).trans rfl,(au xJ.out 0).trans rfl,(au xJ.out 1).trans rfl⟩ (fun hHeld=>?_)
                clear hK K
                refine bV (a':=?_) ?_ ?_
                rotate_left
                ·show Act.put _ (some 5) _ = _
                 simp only [Act.put,List.setIfInBounds_toArray,List.set_cons_zero,List.set_cons_succ,bD,bG]
                 rfl
                exact bV (by first|(simp only [bL,Act.put,List.setIfInBounds_toArray,List.set_cons_zero,List.set_cons_succ];done)|(simp only [bL,Act.put,List.setIfInBounds_toArray,List.set_cons_zero,List.set_cons_succ];rfl)) (FW (xM) _ ⟨hHeld,(bk_ xI.out),(bk_ xJ.out),(bk_ xP.out),ze.out,yA.out,yj.out,yC.out,yu.out,yF.out,(by repeat (first|(with_reducible first|exact HB.out|apply ay|apply aj|apply av|refine ak ?_ xW.out|refine ak ?_ xY.out|refine ak ?_ yA.out)|exact HB.out))⟩)
               ·skip
                refine fM ?hg (N:=6) ?hd (cs:=#[.int .u64 0,.slice none 0 0]) (t:=53) ?hr ?_;(case hd=>rfl);(case hg=>rfl);(case hr=>first|(go_simp;done)|(go_simp;rfl))
                intro xO hg Ej hbox hb
                have yK:=Aside0.mk (aK (g:=xK) (o:=.cells #[.int .u64 xR,.slice xZ xQ.length yc] 49 (0,0)) (bk_ xI.out) hb)
                have yL:=Aside0.mk (aK (g:=xL) (o:=.cells #[.int .u64 xV,.slice yw xU.length yx] 49 (0,0)) (bk_ xJ.out) hb)
                have yM:=Aside0.mk (aQ (by repeat (first|(with_reducible first|exact HB.out|apply ay|apply aj|apply av|refine ak ?_ xW.out|refine ak ?_ xY.out)|exact HB.out)) hb)
                have yO:=Aside0.mk (hbox)
                have yP:=Aside0.mk ((by rw [hg];exact (aV (by repeat (first|(with_reducible first|exact HB.out|apply ay|apply aj|apply av|refine ak ?_ xW.out|refine ak ?_ xY.out)|exact HB.out))) : w.heap.size ≤ xO))
                have yT:=Aside0.mk ((by rw [hg];exact (aV (by repeat (first|(with_reducible first|exact HB.out|apply ay|apply aj|apply av|refine ak ?_ xW.out|refine ak ?_ xY.out)|exact HB.out))) : w.heap.size ≤ xO))
                have yU:=Aside0.mk ((by rw [hg];exact Nat.ne_of_lt (bP (g:=xK) (o:=.cells #[.int .u64 xR,.slice xZ xQ.length yc] 49 (0,0)) (bk_ xI.out)) : xK ≠ xO))
                have zo:=Aside0.mk ((by rw [hg];exact Nat.ne_of_gt (bP (g:=xK) (o:=.cells #[.int .u64 xR,.slice xZ xQ.length yc] 49 (0,0)) (bk_ xI.out)) : xO ≠ xK))
                have zq:=Aside0.mk ((by rw [hg];exact Nat.ne_of_lt (bP (g:=xL) (o:=.cells #[.int .u64 xV,.slice yw xU.length yx] 49 (0,0)) (bk_ xJ.out)) : xL ≠ xO))
                have zu:=Aside0.mk ((by rw [hg];exact Nat.ne_of_gt (bP (g:=xL) (o:=.cells #[.int .u64 xV,.slice yw xU.length yx] 49 (0,0)) (bk_ xJ.out)) : xO ≠ xL))
                clear xI
                clear xJ
                clear HB
                have xI:=yK
                have xJ:=yL
                have HB:=yM
                have xS:=yO
                have zf:=yP
                have yB:=yT
                have yt:=yU
                have yD:=zo
                have yE:=zq
                have yG:=zu
                clear yK yL yM yO yP yT yU zo zq zu
                clear hb hbox hg
                refine hK.out _ _ ⟨(au xI.out 0).trans rfl,(au xI.out 1).trans rfl,(au xJ.out 0).trans rfl,(au xJ.out 1).trans rfl⟩ (fun hHeld=>?_)
                clear hK K
                refine bV (a':=?_) ?_ ?_
                rotate_left
                ·show Act.put _ (some 6) _ = _
                 simp only [Act.put,List.setIfInBounds_toArray,List.set_cons_zero,List.set_cons_succ,bD,bG]
                 rfl
                exact bV (by first|(simp only [bL,Act.put,List.setIfInBounds_toArray,List.set_cons_zero,List.set_cons_succ];done)|(simp only [bL,Act.put,List.setIfInBounds_toArray,List.set_cons_zero,List.set_cons_succ];rfl)) (FX (xO) _ ⟨hHeld,(bk_ xI.out),(bk_ xJ.out),(bk_ xS.out),zf.out,yB.out,yt.out,yD.out,yE.out,yG.out,(by repeat (first|(with_reducible first|exact HB.out|apply ay|apply aj|apply av|refine ak ?_ xW.out|refine ak ?_ xY.out|refine ak ?_ yB.out)|exact HB.out))⟩)
              ·skip
               rintro xO Aa ⟨hS_,zQ,zR,zS,zT,zV,Ab,Ac,Ad,Ae,Af⟩
               have yK : Aside0 (Aa.heap[xK]? = some (.cells #[.int .u64 xR,.slice xZ xQ.length yc] 49 (0,0))):=⟨zQ⟩
               have yL : Aside0 (Aa.heap[xL]? = some (.cells #[.int .u64 xV,.slice yw xU.length yx] 49 (0,0))):=⟨zR⟩
               have yM : Aside0 (Aa.heap[xO]? = some (.cells #[.int .u64 0,.slice none 0 0] 53 (0,0))):=⟨zS⟩
               have yO : Aside0 (w.heap.size ≤ xO):=⟨zT⟩
               have yP : Aside0 (w.heap.size ≤ xO):=⟨zV⟩
               have yT : Aside0 (xK ≠ xO):=⟨Ab⟩
               have yU : Aside0 (xO ≠ xK):=⟨Ac⟩
               have zo : Aside0 (xL ≠ xO):=⟨Ad⟩
               have zq : Aside0 (xO ≠ xL):=⟨Ae⟩
               have zu : Aside0 (Below w.heap.size w Aa):=⟨Af⟩
               clear xI
               clear xJ
               clear HB
               clear zQ zR zS zT zV Ab Ac Ad Ae Af
               have xI:=yK
               have xJ:=yL
               have xS:=yM
               have zf:=yO
               have yB:=yP
               have yt:=yT
               have yD:=yU
               have yE:=zo
               have yG:=zq
               have HB:=zu
               clear yK yL yM yO yP yT yU zo zq zu
               have hHeld : Aa.cell? ⟨xK,0,none⟩ = some (.int .u64 xR) ∧ Aa.cell? ⟨xK,1,none⟩ = some (.slice xZ xQ.length yc) ∧ Aa.cell? ⟨xL,0,none⟩ = some (.int .u64 xV) ∧ Aa.cell? ⟨xL,1,none⟩ = some (.slice yw xU.length yx):=hS_
               refine bV (a':=?_) ?_ ?_
               rotate_left
               ·simp only [bL,Act.put,List.setIfInBounds_toArray,List.set_cons_zero,List.set_cons_succ]
                rfl
               refine jB (i:=1) (j:=4) (Ni:=some 20) (Nj:=some 5) #[true,true,true,false,false,true,false,false] #[true,false,true,false,true,true,false,false] rfl rfl rfl rfl (gL HT_.out (by kernel_rfl)) (by decide) (by decide) (fun K hK=>?_) (fun K hK=>?_)
               ·skip
                refine eD Tryd.func24 (by kernel_rfl) rfl #[.agg #[.int .u64 xR,.slice xZ xQ.length yc]] (by rfl) rfl rfl (by (try simp only [List.map_toArray,List.map_cons,List.map_nil]);first|done|rfl|(simp only [List.length_drop,List.length_take];rfl)) ?_
                with_reducible refine (bF.calls zh xR _ _ xQ yN t226 _ ?yQ ?yR Dp.out).mono ?_
                (case yQ=>repeat (first|exact (Kd.dW zC.out HB.out)|(with_reducible refine Kd.dw ?_ _)|(with_reducible refine Kd.dX ?_ _)|(with_reducible refine Kd.eu ?_)))
                (case yR=>exact zD.out)
                rintro e zH ⟨v227,rfl,ho0,hb⟩
                refine ⟨_,rfl,?_⟩
                have yK:=Aside0.mk (Kd.iI ho0 (aV (by repeat (first|(with_reducible first|exact HB.out|apply ay|apply aj|apply av|refine ak ?_ xW.out|refine ak ?_ xY.out|refine ak ?_ yB.out)|exact HB.out))))
                have yL:=Aside0.mk (aK (g:=xK) (o:=.cells #[.int .u64 xR,.slice xZ xQ.length yc] 49 (0,0)) (bk_ xI.out) hb)
                have yM:=Aside0.mk (aK (g:=xL) (o:=.cells #[.int .u64 xV,.slice yw xU.length yx] 49 (0,0)) (bk_ xJ.out) hb)
                have yO:=Aside0.mk (aK (g:=xO) (o:=.cells #[.int .u64 0,.slice none 0 0] 53 (0,0)) (bk_ xS.out) hb)
                have yP:=Aside0.mk (aQ (by repeat (first|(with_reducible first|exact HB.out|apply ay|apply aj|apply av|refine ak ?_ xW.out|refine ak ?_ xY.out|refine ak ?_ yB.out)|exact HB.out)) hb)
                clear xI
                clear xJ
                clear xS
                clear HB
                have xX:=yK
                have xI:=yL
                have xJ:=yM
                have xS:=yO
                have HB:=yP
                clear yK yL yM yO yP
                (try clear hb)
                (try clear hb2)
                (try clear hk)
                (try clear hi)
                (try clear ho0)
                refine hK.out _ _ ⟨(au xI.out 0).trans rfl,(au xI.out 1).trans rfl,(au xJ.out 0).trans rfl,(au xJ.out 1).trans rfl⟩ (fun hHeld=>?_)
                clear hK K
                refine bV (a':=?_) ?_ ?_
                rotate_left
                ·show Act.put _ (some 20) _ = _
                 simp only [Act.put,List.setIfInBounds_toArray,List.set_cons_zero,List.set_cons_succ,bD,bG]
                 rfl
                exact bV (by first|(simp only [bL,Act.put,List.setIfInBounds_toArray,List.set_cons_zero,List.set_cons_succ];done)|(simp only [bL,Act.put,List.setIfInBounds_toArray,List.set_cons_zero,List.set_cons_succ];rfl)) (CJ (v227,xO) _ ⟨hHeld,(by (with_reducible repeat (first|apply Kd.bM|apply Kd.bN|apply Kd.bW));exact xX.out),(bk_ xI.out),(bk_ xJ.out),(bk_ xS.out),zf.out,yB.out,yt.out,yD.out,yE.out,yG.out,(by repeat (first|(with_reducible first|exact HB.out|apply ay|apply aj|apply av|refine ak ?_ xW.out|refine ak ?_ xY.out|refine ak ?_ yB.out)|exact HB.out))⟩)
               ·skip
                refine fM ?hg (N:=5) ?hd (cs:=#[.int .u64 0,.slice none 0 0]) (t:=53) ?hr ?_;(case hd=>rfl);(case hg=>rfl);(case hr=>first|(go_simp;done)|(go_simp;rfl))
                intro xM hg zH hbox hb
                have yK:=Aside0.mk (aK (g:=xK) (o:=.cells #[.int .u64 xR,.slice xZ xQ.length yc] 49 (0,0)) (bk_ xI.out) hb)
                have yL:=Aside0.mk (aK (g:=xL) (o:=.cells #[.int .u64 xV,.slice yw xU.length yx] 49 (0,0)) (bk_ xJ.out) hb)
                have yM:=Aside0.mk (aK (g:=xO) (o:=.cells #[.int .u64 0,.slice none 0 0] 53 (0,0)) (bk_ xS.out) hb)
                have yO:=Aside0.mk (aQ (by repeat (first|(with_reducible first|exact HB.out|apply ay|apply aj|apply av|refine ak ?_ xW.out|refine ak ?_ xY.out|refine ak ?_ yB.out)|exact HB.out)) hb)
                have yP:=Aside0.mk (hbox)
                have yT:=Aside0.mk ((by rw [hg];exact (aV (by repeat (first|(with_reducible first|exact HB.out|apply ay|apply aj|apply av|refine ak ?_ xW.out|refine ak ?_ xY.out|refine ak ?_ yB.out)|exact HB.out))) : w.heap.size ≤ xM))
                have yU:=Aside0.mk ((by rw [hg];exact (aV (by repeat (first|(with_reducible first|exact HB.out|apply ay|apply aj|apply av|refine ak ?_ xW.out|refine ak ?_ xY.out|refine ak ?_ yB.out)|exact HB.out))) : w.heap.size ≤ xM))
                have zo:=Aside0.mk ((by rw [hg];exact Nat.ne_of_lt (bP (g:=xK) (o:=.cells #[.int .u64 xR,.slice xZ xQ.length yc] 49 (0,0)) (bk_ xI.out)) : xK ≠ xM))
                have zq:=Aside0.mk ((by rw [hg];exact Nat.ne_of_gt (bP (g:=xK) (o:=.cells #[.int .u64 xR,.slice xZ xQ.length yc] 49 (0,0)) (bk_ xI.out)) : xM ≠ xK))
                have zu:=Aside0.mk ((by rw [hg];exact Nat.ne_of_lt (bP (g:=xL) (o:=.cells #[.int .u64 xV,.slice yw xU.length yx] 49 (0,0)) (bk_ xJ.out)) : xL ≠ xM))
                have yV:=Aside0.mk ((by rw [hg];exact Nat.ne_of_gt (bP (g:=xL) (o:=.cells #[.int .u64 xV,.slice yw xU.length yx] 49 (0,0)) (bk_ xJ.out)) : xM ≠ xL))
                have za:=Aside0.mk ((by rw [hg];exact Nat.ne_of_lt (bP (g:=xO) (o:=.cells #[.int .u64 0,.slice none 0 0] 53 (0,0)) (bk_ xS.out)) : xO ≠ xM))
                have zB:=Aside0.mk ((by rw [hg];exact Nat.ne_of_gt (bP (g:=xO) (o:=.cells #[.int .u64 0,.slice none 0 0] 53 (0,0)) (bk_ xS.out)) : xM ≠ xO))
                clear xI
                clear xJ
                clear xS
                clear HB
                have xI:=yK
                have xJ:=yL
                have xS:=yM
                have HB:=yO
                have xP:=yP
                have ze:=yT
                have yA:=yU
                have yj:=zo
                have yC:=zq
                have yu:=zu
                have yF:=yV
                have yI:=za
                have yJ:=zB
                clear yK yL yM yO yP yT yU zo zq zu yV za zB
                clear hb hbox hg
                refine hK.out _ _ ⟨(au xI.out 0).trans rfl,(au xI.out 1).trans rfl,(au xJ.out 0).trans rfl,(au xJ.out 1).trans rfl⟩ (fun hHeld=>?_)
                clear hK K
                refine bV (a':=?_) ?_ ?_
                rotate_left
                ·show Act.put _ (some 5) _ = _
                 simp only [Act.put,List.setIfInBounds_toArray,List.set_cons_zero,List.set_cons_succ,bD,bG]
                 rfl
                exact bV (by first|(simp only [bL,Act.put,List.setIfInBounds_toArray,List.set_cons_zero,List.set_cons_succ];done)|(simp only [bL,Act.put,List.setIfInBounds_toArray,List.set_cons_zero,List.set_cons_succ];rfl)) (CK (xM,xO) _ ⟨hHeld,(bk_ xI.out),(bk_ xJ.out),(bk_ xP.out),(bk_ xS.out),ze.out,yA.out,yj.out,yC.out,yu.out,yF.out,yI.out,yJ.out,zf.out,yB.out,yt.out,yD.out,yE.out,yG.out,(by repeat (first|(with_reducible first|exact HB.out|apply ay|apply aj|apply av|refine ak ?_ xW.out|refine ak ?_ xY.out|refine ak ?_ yB.out|refine ak ?_ yA.out)|exact HB.out))⟩)
             ·skip
              rintro xM Aa ⟨hS_,zQ,zR,zS,zT,zV,Ab,Ac,Ad,Ae,Af⟩
              have yK : Aside0 (Aa.heap[xK]? = some (.cells #[.int .u64 xR,.slice xZ xQ.length yc] 49 (0,0))):=⟨zQ⟩
              have yL : Aside0 (Aa.heap[xL]? = some (.cells #[.int .u64 xV,.slice yw xU.length yx] 49 (0,0))):=⟨zR⟩
              have yM : Aside0 (Aa.heap[xM]? = some (.cells #[.int .u64 0,.slice none 0 0] 53 (0,0))):=⟨zS⟩
              have yO : Aside0 (w.heap.size ≤ xM):=⟨zT⟩
              have yP : Aside0 (w.heap.size ≤ xM):=⟨zV⟩
              have yT : Aside0 (xK ≠ xM):=⟨Ab⟩
              have yU : Aside0 (xM ≠ xK):=⟨Ac⟩
              have zo : Aside0 (xL ≠ xM):=⟨Ad⟩
              have zq : Aside0 (xM ≠ xL):=⟨Ae⟩
              have zu : Aside0 (Below w.heap.size w Aa):=⟨Af⟩
              clear xI
              clear xJ
              clear HB
              clear zQ zR zS zT zV Ab Ac Ad Ae Af
              have xI:=yK
              have xJ:=yL
              have xP:=yM
              have ze:=yO
              have yA:=yP
              have yj:=yT
              have yC:=yU
              have yu:=zo
              have yF:=zq
              have HB:=zu
              clear yK yL yM yO yP yT yU zo zq zu
              have hHeld : Aa.cell? ⟨xK,0,none⟩ = some (.int .u64 xR) ∧ Aa.cell? ⟨xK,1,none⟩ = some (.slice xZ xQ.length yc) ∧ Aa.cell? ⟨xL,0,none⟩ = some (.int .u64 xV) ∧ Aa.cell? ⟨xL,1,none⟩ = some (.slice yw xU.length yx):=hS_
              refine bV (a':=?_) ?_ ?_
              rotate_left
              ·simp only [bL,Act.put,List.setIfInBounds_toArray,List.set_cons_zero,List.set_cons_succ]
               rfl
              refine jB (i:=1) (j:=5) (Ni:=some 20) (Nj:=some 6) #[true,true,true,false,true,false,false,false] #[true,false,true,false,true,true,false,false] rfl rfl rfl rfl (gL HT_.out (by kernel_rfl)) (by decide) (by decide) (fun K hK=>?_) (fun K hK=>?_)
              ·skip
               refine eD Tryd.func24 (by kernel_rfl) rfl #[.agg #[.int .u64 xR,.slice xZ xQ.length yc]] (by rfl) rfl rfl (by (try simp only [List.map_toArray,List.map_cons,List.map_nil]);first|done|rfl|(simp only [List.length_drop,List.length_take];rfl)) ?_
               with_reducible refine (bF.calls zh xR _ _ xQ yN t226 _ ?yQ ?yR Dp.out).mono ?_
               (case yQ=>repeat (first|exact (Kd.dW zC.out HB.out)|(with_reducible refine Kd.dw ?_ _)|(with_reducible refine Kd.dX ?_ _)|(with_reducible refine Kd.eu ?_)))
               (case yR=>exact zD.out)
               rintro e zH ⟨v227,rfl,ho0,hb⟩
               refine ⟨_,rfl,?_⟩
               have yK:=Aside0.mk (Kd.iI ho0 (aV (by repeat (first|(with_reducible first|exact HB.out|apply ay|apply aj|apply av|refine ak ?_ xW.out|refine ak ?_ xY.out|refine ak ?_ yA.out)|exact HB.out))))
               have yL:=Aside0.mk (aK (g:=xK) (o:=.cells #[.int .u64 xR,.slice xZ xQ.length yc] 49 (0,0)) (bk_ xI.out) hb)
               have yM:=Aside0.mk (aK (g:=xL) (o:=.cells #[.int .u64 xV,.slice yw xU.length yx] 49 (0,0)) (bk_ xJ.out) hb)
               have yO:=Aside0.mk (aK (g:=xM) (o:=.cells #[.int .u64 0,.slice none 0 0] 53 (0,0)) (bk_ xP.out) hb)
               have yP:=Aside0.mk (aQ (by repeat (first|(with_reducible first|exact HB.out|apply ay|apply aj|apply av|refine ak ?_ xW.out|refine ak ?_ xY.out|refine ak ?_ yA.out)|exact HB.out)) hb)
               clear xI
               clear xJ
               clear xP
               clear HB
               have xX:=yK
               have xI:=yL
               have xJ:=yM
               have xP:=yO
               have HB:=yP
               clear yK yL yM yO yP
               (try clear hb)
               (try clear hb2)
               (try clear hk)
               (try clear hi)
               (try clear ho0)
               refine hK.out _ _ ⟨(au xI.out 0).trans rfl,(au xI.out 1).trans rfl,(au xJ.out 0).trans rfl,(au xJ.out 1).trans rfl⟩ (fun hHeld=>?_)
               clear hK K
               refine bV (a':=?_) ?_ ?_
               rotate_left
               ·show Act.put _ (some 20) _ = _
                simp only [Act.put,List.setIfInBounds_toArray,List.set_cons_zero,List.set_cons_succ,bD,bG]
                rfl
               exact bV (by first|(simp only [bL,Act.put,List.setIfInBounds_toArray,List.set_cons_zero,List.set_cons_succ];done)|(simp only [bL,Act.put,List.setIfInBounds_toArray,List.set_cons_zero,List.set_cons_succ];rfl)) (CG (v227,xM) _ ⟨hHeld,(by (with_reducible repeat (first|apply Kd.bM|apply Kd.bN|apply Kd.bW));exact xX.out),(bk_ xI.out),(bk_ xJ.out),(bk_ xP.out),ze.out,yA.out,yj.out,yC.out,yu.out,yF.out,(by repeat (first|(with_reducible first|exact HB.out|apply ay|apply aj|apply av|refine ak ?_ xW.out|refine ak ?_ xY.out|refine ak ?_ yA.out)|exact HB.out))⟩)
              ·skip
               refine fM ?hg (N:=6) ?hd (cs:=#[.int .u64 0,.slice none 0 0]) (t:=53) ?hr ?_;(case hd=>rfl);(case hg=>rfl);(case hr=>first|(go_simp;done)|(go_simp;rfl))
               intro xO hg zH hbox hb
               have yK:=Aside0.mk (aK (g:=xK) (o:=.cells #[.int .u64 xR,.slice xZ xQ.length yc] 49 (0,0)) (bk_ xI.out) hb)
               have yL:=Aside0.mk (aK (g:=xL) (o:=.cells #[.int .u64 xV,.slice yw xU.length yx] 49 (0,0)) (bk_ xJ.out) hb)
               have yM:=Aside0.mk (aK (g:=xM) (o:=.cells #[.int .u64 0,.slice none 0 0] 53 (0,0)) (bk_ xP.out) hb)
               have yO:=Aside0.mk (aQ (by repeat (first|(with_reducible first|exact HB.out|apply ay|apply aj|apply av|refine ak ?_ xW.out|refine ak ?_ xY.out|refine ak ?_ yA.out)|exact HB.out)) hb)
               have yP:=Aside0.mk (hbox)
               have yT:=Aside0.mk ((by rw [hg];exact (aV (by repeat (first|(with_reducible first|exact HB.out|apply ay|apply aj|apply av|refine ak ?_ xW.out|refine ak ?_ xY.out|refine ak ?_ yA.out)|exact HB.out))) : w.heap.size ≤ xO))
               have yU:=Aside0.mk ((by rw [hg];exact (aV (by repeat (first|(with_reducible first|exact HB.out|apply ay|apply aj|apply av|refine ak ?_ xW.out|refine ak ?_ xY.out|refine ak ?_ yA.out)|exact HB.out))) : w.heap.size ≤ xO))
               have zo:=Aside0.mk ((by rw [hg];exact Nat.ne_of_lt (bP (g:=xK) (o:=.cells #[.int .u64 xR,.slice xZ xQ.length yc] 49 (0,0)) (bk_ xI.out)) : xK ≠ xO))
               have zq:=Aside0.mk ((by rw [hg];exact Nat.ne_of_gt (bP (g:=xK) (o:=.cells #[.int .u64 xR,.slice xZ xQ.length yc] 49 (0,0)) (bk_ xI.out)) : xO ≠ xK))
               have zu:=Aside0.mk ((by rw [hg];exact Nat.ne_of_lt (bP (g:=xL) (o:=.cells #[.int .u64 xV,.slice yw xU.length yx] 49 (0,0)) (bk_ xJ.out)) : xL ≠ xO))
               have yV:=Aside0.mk ((by rw [hg];exact Nat.ne_of_gt (bP (g:=xL) (o:=.cells #[.int .u64 xV,.slice yw xU.length yx] 49 (0,0)) (bk_ xJ.out)) : xO ≠ xL))
               have za:=Aside0.mk ((by rw [hg];exact Nat.ne_of_lt (bP (g:=xM) (o:=.cells #[.int .u64 0,.slice none 0 0] 53 (0,0)) (bk_ xP.out)) : xM ≠ xO))
               have zB:=Aside0.mk ((by rw [hg];exact Nat.ne_of_gt (bP (g:=xM) (o:=.cells #[.int .u64 0,.slice none 0 0] 53 (0,0)) (bk_ xP.out)) : xO ≠ xM))
               clear xI
               clear xJ
               clear xP
               clear HB
               have xI:=yK
               have xJ:=yL
               have xP:=yM
               have HB:=yO
               have xS:=yP
               have zf:=yT
               have yB:=yU
               have yt:=zo
               have yD:=zq
               have yE:=zu
               have yG:=yV
               have yJ:=za
               have yI:=zB
               clear yK yL yM yO yP yT yU zo zq zu yV za zB
               clear hb hbox hg
               refine hK.out _ _ ⟨(au xI.out 0).trans rfl,(au xI.out 1).trans rfl,(au xJ.out 0).trans rfl,(au xJ.out 1).trans rfl⟩ (fun hHeld=>?_)
               clear hK K
               refine bV (a':=?_) ?_ ?_
               rotate_left
               ·show Act.put _ (some 6) _ = _
                simp only [Act.put,List.setIfInBounds_toArray,List.set_cons_zero,List.set_cons_succ,bD,bG]
                rfl
               exact bV (by first|(simp only [bL,Act.put,List.setIfInBounds_toArray,List.set_cons_zero,List.set_cons_succ];done)|(simp only [bL,Act.put,List.setIfInBounds_toArray,List.set_cons_zero,List.set_cons_succ];rfl)) (CK (xM,xO) _ ⟨hHeld,(bk_ xI.out),(bk_ xJ.out),(bk_ xP.out),(bk_ xS.out),ze.out,yA.out,yj.out,yC.out,yu.out,yF.out,yI.out,yJ.out,zf.out,yB.out,yt.out,yD.out,yE.out,yG.out,(by repeat (first|(with_reducible first|exact HB.out|apply ay|apply aj|apply av|refine ak ?_ xW.out|refine ak ?_ xY.out|refine ak ?_ yA.out|refine ak ?_ yB.out)|exact HB.out))⟩)
            ·skip
             rintro v227 Aa ⟨hS_,zQ,zR,zS,zT⟩
             have yK : Aside0 (Kd.S fA 103 Aa w.heap.size (fun _=>True) v227 t226):=⟨zQ⟩
             have yL : Aside0 (Aa.heap[xK]? = some (.cells #[.int .u64 xR,.slice xZ xQ.length yc] 49 (0,0))):=⟨zR⟩
             have yM : Aside0 (Aa.heap[xL]? = some (.cells #[.int .u64 xV,.slice yw xU.length yx] 49 (0,0))):=⟨zS⟩
             have yO : Aside0 (Below w.heap.size w Aa):=⟨zT⟩
             clear xI
             clear xJ
             clear HB
             clear zQ zR zS zT
             have xX:=yK
             have xI:=yL
             have xJ:=yM
             have HB:=yO
             clear yK yL yM yO
             have hHeld : Aa.cell? ⟨xK,0,none⟩ = some (.int .u64 xR) ∧ Aa.cell? ⟨xK,1,none⟩ = some (.slice xZ xQ.length yc) ∧ Aa.cell? ⟨xL,0,none⟩ = some (.int .u64 xV) ∧ Aa.cell? ⟨xL,1,none⟩ = some (.slice yw xU.length yx):=hS_
             refine bV (a':=?_) ?_ ?_
             rotate_left
             ·simp only [bL,Act.put,List.setIfInBounds_toArray,List.set_cons_zero,List.set_cons_succ]
              rfl
             refine qN (i:=3) (j:=4) (k:=5) (Ni:=some 22) (Nj:=some 5) (Nk:=some 6) #[true,true,true,true,false,false,false,false] #[true,true,true,false,true,false,false,false] #[true,true,true,false,false,true,false,false] rfl rfl rfl rfl rfl rfl (nK HT_.out (by kernel_rfl)) (by decide) (by decide) (by decide) (fun K hK=>?_) (fun K hK=>?_) (fun K hK=>?_)
             ·skip
              refine eD Tryd.func24 (by kernel_rfl) rfl #[.agg #[.int .u64 xV,.slice yw xU.length yx]] (by rfl) rfl rfl (by (try simp only [List.map_toArray,List.map_cons,List.map_nil]);first|done|rfl|(simp only [List.length_drop,List.length_take];rfl)) ?_
              with_reducible refine (bF.calls zh xV _ _ xU t229 yS _ ?yQ ?yR Dq.out).mono ?_
              (case yQ=>repeat (first|exact (Kd.dW Ah.out HB.out)|(with_reducible refine Kd.dw ?_ _)|(with_reducible refine Kd.dX ?_ _)|(with_reducible refine Kd.eu ?_)))
              (case yR=>exact Ai.out)
              rintro e zH ⟨zG,rfl,ho0,hb⟩
              refine ⟨_,rfl,?_⟩
              have yK:=Aside0.mk (Kd.jL (by (with_reducible repeat (first|apply Kd.bM|apply Kd.bN|apply Kd.bW));exact xX.out) (Kd.mX ho0) hb)
              have yL:=Aside0.mk (Kd.iI (Kd.mY ho0 (Kd.sM (by (with_reducible repeat (first|apply Kd.bM|apply Kd.bN|apply Kd.bW));exact xX.out))) (aV (by repeat (first|(with_reducible first|exact HB.out|apply ay|apply aj|apply av|refine ak ?_ xW.out|refine ak ?_ xY.out)|exact HB.out))))
              have yM:=Aside0.mk (aK (g:=xK) (o:=.cells #[.int .u64 xR,.slice xZ xQ.length yc] 49 (0,0)) (bk_ xI.out) hb)
              have yO:=Aside0.mk (aK (g:=xL) (o:=.cells #[.int .u64 xV,.slice yw xU.length yx] 49 (0,0)) (bk_ xJ.out) hb)
              have yP:=Aside0.mk (aQ (by repeat (first|(with_reducible first|exact HB.out|apply ay|apply aj|apply av|refine ak ?_ xW.out|refine ak ?_ xY.out)|exact HB.out)) hb)
              clear xX
              clear xI
              clear xJ
              clear HB
              have xX:=yK
              have yH:=yL
              have xI:=yM
              have xJ:=yO
              have HB:=yP
              clear yK yL yM yO yP
              (try clear hb)
              (try clear hb2)
              (try clear hk)
              (try clear hi)
              (try clear ho0)
              refine hK.out _ _ ⟨(au xI.out 0).trans rfl,(au xI.out 1).trans rfl,(au xJ.out 0).trans rfl,(au xJ.out 1).trans rfl⟩ (fun hHeld=>?_)
              clear hK K
              refine bV (a':=?_) ?_ ?_
              rotate_left
              ·show Act.put _ (some 22) _ = _
               simp only [Act.put,List.setIfInBounds_toArray,List.set_cons_zero,List.set_cons_succ,bD,bG]
               rfl
              exact bV (by first|(simp only [bL,Act.put,List.setIfInBounds_toArray,List.set_cons_zero,List.set_cons_succ];done)|(simp only [bL,Act.put,List.setIfInBounds_toArray,List.set_cons_zero,List.set_cons_succ];rfl)) (CZ (v227,zG) _ ⟨hHeld,(by (with_reducible repeat (first|apply Kd.bM|apply Kd.bN|apply Kd.bW));exact Kd.eU xX.out (fun _ hk=>hk.2)),(by (with_reducible repeat (first|apply Kd.bM|apply Kd.bN|apply Kd.bW));exact Kd.eU yH.out (fun _ hk=>hk.2)),(bk_ xI.out),(bk_ xJ.out),(by repeat (first|(with_reducible first|exact HB.out|apply ay|apply aj|apply av|refine ak ?_ xW.out|refine ak ?_ xY.out)|exact HB.out))⟩)
             ·skip
              refine fM ?hg (N:=5) ?hd (cs:=#[.int .u64 0,.slice none 0 0]) (t:=53) ?hr ?_;(case hd=>rfl);(case hg=>rfl);(case hr=>first|(go_simp;done)|(go_simp;rfl))
              intro xM hg zH hbox hb
              have yK:=Aside0.mk (Kd.dz (by (with_reducible repeat (first|apply Kd.bM|apply Kd.bN|apply Kd.bW));exact xX.out) hb)
              have yL:=Aside0.mk (aK (g:=xK) (o:=.cells #[.int .u64 xR,.slice xZ xQ.length yc] 49 (0,0)) (bk_ xI.out) hb)
              have yM:=Aside0.mk (aK (g:=xL) (o:=.cells #[.int .u64 xV,.slice yw xU.length yx] 49 (0,0)) (bk_ xJ.out) hb)
              have yO:=Aside0.mk (aQ (by repeat (first|(with_reducible first|exact HB.out|apply ay|apply aj|apply av|refine ak ?_ xW.out|refine ak ?_ xY.out)|exact HB.out)) hb)
              have yP:=Aside0.mk (hbox)
              have yT:=Aside0.mk ((by rw [hg];exact (aV (by repeat (first|(with_reducible first|exact HB.out|apply ay|apply aj|apply av|refine ak ?_ xW.out|refine ak ?_ xY.out)|exact HB.out))) : w.heap.size ≤ xM))
              have yU:=Aside0.mk ((by rw [hg];exact (aV (by repeat (first|(with_reducible first|exact HB.out|apply ay|apply aj|apply av|refine ak ?_ xW.out|refine ak ?_ xY.out)|exact HB.out))) : w.heap.size ≤ xM))
              have zo:=Aside0.mk ((by rw [hg];exact Nat.ne_of_lt (bP (g:=xK) (o:=.cells #[.int .u64 xR,.slice xZ xQ.length yc] 49 (0,0)) (bk_ xI.out)) : xK ≠ xM))
              have zq:=Aside0.mk ((by rw [hg];exact Nat.ne_of_gt (bP (g:=xK) (o:=.cells #[.int .u64 xR,.slice xZ xQ.length yc] 49 (0,0)) (bk_ xI.out)) : xM ≠ xK))
              have zu:=Aside0.mk ((by rw [hg];exact Nat.ne_of_lt (bP (g:=xL) (o:=.cells #[.int .u64 xV,.slice yw xU.length yx] 49 (0,0)) (bk_ xJ.out)) : xL ≠ xM))
              have yV:=Aside0.mk ((by rw [hg];exact Nat.ne_of_gt (bP (g:=xL) (o:=.cells #[.int .u64 xV,.slice yw xU.length yx] 49 (0,0)) (bk_ xJ.out)) : xM ≠ xL))
              clear xX
              clear xI
              clear xJ
              clear HB
              have xX:=yK
              have xI:=yL
              have xJ:=yM
              have HB:=yO
              have xP:=yP
              have ze:=yT
              have yA:=yU
              have yj:=zo
              have yC:=zq
              have yu:=zu
              have yF:=yV
              clear yK yL yM yO yP yT yU zo zq zu yV
              clear hb hbox hg
              refine hK.out _ _ ⟨(au xI.out 0).trans rfl,(au xI.out 1).trans rfl,(au xJ.out 0).trans rfl,(au xJ.out 1).trans rfl⟩ (fun hHeld=>?_)
              clear hK K
              refine bV (a':=?_) ?_ ?_
              rotate_left
              ·show Act.put _ (some 5) _ = _
               simp only [Act.put,List.setIfInBounds_toArray,List.set_cons_zero,List.set_cons_succ,bD,bG]
               rfl
              exact bV (by first|(simp only [bL,Act.put,List.setIfInBounds_toArray,List.set_cons_zero,List.set_cons_succ];done)|(simp only [bL,Act.put,List.setIfInBounds_toArray,List.set_cons_zero,List.set_cons_succ];rfl)) (CG (v227,xM) _ ⟨hHeld,(by (with_reducible repeat (first|apply Kd.bM|apply Kd.bN|apply Kd.bW));exact xX.out),(bk_ xI.out),(bk_ xJ.out),(bk_ xP.out),ze.out,yA.out,yj.out,yC.out,yu.out,yF.out,(by repeat (first|(with_reducible first|exact HB.out|apply ay|apply aj|apply av|refine ak ?_ xW.out|refine ak ?_ xY.out|refine ak ?_ yA.out)|exact HB.out))⟩)
             ·skip
              refine fM ?hg (N:=6) ?hd (cs:=#[.int .u64 0,.slice none 0 0]) (t:=53) ?hr ?_;(case hd=>rfl);(case hg=>rfl);(case hr=>first|(go_simp;done)|(go_simp;rfl))
              intro xO hg zH hbox hb
              have yK:=Aside0.mk (Kd.dz (by (with_reducible repeat (first|apply Kd.bM|apply Kd.bN|apply Kd.bW));exact xX.out) hb)
              have yL:=Aside0.mk (aK (g:=xK) (o:=.cells #[.int .u64 xR,.slice xZ xQ.length yc] 49 (0,0)) (bk_ xI.out) hb)
              have yM:=Aside0.mk (aK (g:=xL) (o:=.cells #[.int .u64 xV,.slice yw xU.length yx] 49 (0,0)) (bk_ xJ.out) hb)
              have yO:=Aside0.mk (aQ (by repeat (first|(with_reducible first|exact HB.out|apply ay|apply aj|apply av|refine ak ?_ xW.out|refine ak ?_ xY.out)|exact HB.out)) hb)
              have yP:=Aside0.mk (hbox)
              have yT:=Aside0.mk ((by rw [hg];exact (aV (by repeat (first|(with_reducible first|exact HB.out|apply ay|apply aj|apply av|refine ak ?_ xW.out|refine ak ?_ xY.out)|exact HB.out))) : w.heap.size ≤ xO))
              have yU:=Aside0.mk ((by rw [hg];exact (aV (by repeat (first|(with_reducible first|exact HB.out|apply ay|apply aj|apply av|refine ak ?_ xW.out|refine ak ?_ xY.out)|exact HB.out))) : w.heap.size ≤ xO))
              have zo:=Aside0.mk ((by rw [hg];exact Nat.ne_of_lt (bP (g:=xK) (o:=.cells #[.int .u64 xR,.slice xZ xQ.length yc] 49 (0,0)) (bk_ xI.out)) : xK ≠ xO))
              have zq:=Aside0.mk ((by rw [hg];exact Nat.ne_of_gt (bP (g:=xK) (o:=.cells #[.int .u64 xR,.slice xZ xQ.length yc] 49 (0,0)) (bk_ xI.out)) : xO ≠ xK))
              have zu:=Aside0.mk ((by rw [hg];exact Nat.ne_of_lt (bP (g:=xL) (o:=.cells #[.int .u64 xV,.slice yw xU.length yx] 49 (0,0)) (bk_ xJ.out)) : xL ≠ xO))
              have yV:=Aside0.mk ((by rw [hg];exact Nat.ne_of_gt (bP (g:=xL) (o:=.cells #[.int .u64 xV,.slice yw xU.length yx] 49 (0,0)) (bk_ xJ.out)) : xO ≠ xL))
              clear xX
              clear xI
              clear xJ
              clear HB
              have xX:=yK
              have xI:=yL
              have xJ:=yM
              have HB:=yO
              have xS:=yP
              have zf:=yT
              have yB:=yU
              have yt:=zo
              have yD:=zq
              have yE:=zu
              have yG:=yV
              clear yK yL yM yO yP yT yU zo zq zu yV
              clear hb hbox hg
              refine hK.out _ _ ⟨(au xI.out 0).trans rfl,(au xI.out 1).trans rfl,(au xJ.out 0).trans rfl,(au xJ.out 1).trans rfl⟩ (fun hHeld=>?_)
              clear hK K
              refine bV (a':=?_) ?_ ?_
              rotate_left
              ·show Act.put _ (some 6) _ = _
               simp only [Act.put,List.setIfInBounds_toArray,List.set_cons_zero,List.set_cons_succ,bD,bG]
               rfl
              exact bV (by first|(simp only [bL,Act.put,List.setIfInBounds_toArray,List.set_cons_zero,List.set_cons_succ];done)|(simp only [bL,Act.put,List.setIfInBounds_toArray,List.set_cons_zero,List.set_cons_succ];rfl)) (CJ (v227,xO) _ ⟨hHeld,(by (with_reducible repeat (first|apply Kd.bM|apply Kd.bN|apply Kd.bW));exact xX.out),(bk_ xI.out),(bk_ xJ.out),(bk_ xS.out),zf.out,yB.out,yt.out,yD.out,yE.out,yG.out,(by repeat (first|(with_reducible first|exact HB.out|apply ay|apply aj|apply av|refine ak ?_ xW.out|refine ak ?_ xY.out|refine ak ?_ yB.out)|exact HB.out))⟩)
           ·skip
            rintro ⟨xM,xO⟩ zH ⟨hS_,zQ,zR,zS,zT,zV,Ab,Ac,Ad,Ae,Af,zN,zW,Ao,Ap,Aq,Ar,Au,Av,Aw⟩
            have yK : Aside0 (zH.heap[xK]? = some (.cells #[.int .u64 xR,.slice xZ xQ.length yc] 49 (0,0))):=⟨zQ⟩
            have yL : Aside0 (zH.heap[xL]? = some (.cells #[.int .u64 xV,.slice yw xU.length yx] 49 (0,0))):=⟨zR⟩
            have yM : Aside0 (zH.heap[xM]? = some (.cells #[.int .u64 0,.slice none 0 0] 53 (0,0))):=⟨zS⟩
            have yO : Aside0 (zH.heap[xO]? = some (.cells #[.int .u64 0,.slice none 0 0] 53 (0,0))):=⟨zT⟩
            have yP : Aside0 (w.heap.size ≤ xM):=⟨zV⟩
            have yT : Aside0 (w.heap.size ≤ xM):=⟨Ab⟩
            have yU : Aside0 (xK ≠ xM):=⟨Ac⟩
            have zo : Aside0 (xM ≠ xK):=⟨Ad⟩
            have zq : Aside0 (xL ≠ xM):=⟨Ae⟩
            have zu : Aside0 (xM ≠ xL):=⟨Af⟩
            have yV : Aside0 (xO ≠ xM):=⟨zN⟩
            have za : Aside0 (xM ≠ xO):=⟨zW⟩
            have zB : Aside0 (w.heap.size ≤ xO):=⟨Ao⟩
            have zO : Aside0 (w.heap.size ≤ xO):=⟨Ap⟩
            have zX : Aside0 (xK ≠ xO):=⟨Aq⟩
            have Ay : Aside0 (xO ≠ xK):=⟨Ar⟩
            have Az : Aside0 (xL ≠ xO):=⟨Au⟩
            have AA : Aside0 (xO ≠ xL):=⟨Av⟩
            have AB : Aside0 (Below w.heap.size w zH):=⟨Aw⟩
            clear xI
            clear xJ
            clear HB
            clear zQ zR zS zT zV Ab Ac Ad Ae Af zN zW Ao Ap Aq Ar Au Av Aw
            have xI:=yK
            have xJ:=yL
            have xP:=yM
            have xS:=yO
            have ze:=yP
            have yA:=yT
            have yj:=yU
            have yC:=zo
            have yu:=zq
            have yF:=zu
            have yI:=yV
            have yJ:=za
            have zf:=zB
            have yB:=zO
            have yt:=zX
            have yD:=Ay
            have yE:=Az
            have yG:=AA
            have HB:=AB
            clear yK yL yM yO yP yT yU zo zq zu yV za zB zO zX Ay Az AA AB
            have hHeld : zH.cell? ⟨xK,0,none⟩ = some (.int .u64 xR) ∧ zH.cell? ⟨xK,1,none⟩ = some (.slice xZ xQ.length yc) ∧ zH.cell? ⟨xL,0,none⟩ = some (.int .u64 xV) ∧ zH.cell? ⟨xL,1,none⟩ = some (.slice yw xU.length yx):=hS_
            refine bV (a':=?_) ?_ ?_
            rotate_left
            ·simp only [bL,Act.put,List.setIfInBounds_toArray,List.set_cons_zero,List.set_cons_succ]
             rfl
            refine fV (i:=1) (N:=some 20) #[true,true,true,false,true,true,false,false] rfl rfl (eB HT_.out (by kernel_rfl)) (by decide) (fun K hK=>?_)
            refine eD Tryd.func24 (by kernel_rfl) rfl #[.agg #[.int .u64 xR,.slice xZ xQ.length yc]] (by rfl) rfl rfl (by (try simp only [List.map_toArray,List.map_cons,List.map_nil]);first|done|rfl|(simp only [List.length_drop,List.length_take];rfl)) ?_
            with_reducible refine (bF.calls zh xR _ _ xQ yN t226 _ ?yQ ?yR Dp.out).mono ?_
            (case yQ=>repeat (first|exact (Kd.dW zC.out HB.out)|(with_reducible refine Kd.dw ?_ _)|(with_reducible refine Kd.dX ?_ _)|(with_reducible refine Kd.eu ?_)))
            (case yR=>exact zD.out)
            rintro e zP ⟨v227,rfl,ho0,hb⟩
            refine ⟨_,rfl,?_⟩
            have yK:=Aside0.mk (Kd.iI ho0 (aV (by repeat (first|(with_reducible first|exact HB.out|apply ay|apply aj|apply av|refine ak ?_ xW.out|refine ak ?_ xY.out|refine ak ?_ yA.out|refine ak ?_ yB.out)|exact HB.out))))
            have yL:=Aside0.mk (aK (g:=xK) (o:=.cells #[.int .u64 xR,.slice xZ xQ.length yc] 49 (0,0)) (bk_ xI.out) hb)
            have yM:=Aside0.mk (aK (g:=xL) (o:=.cells #[.int .u64 xV,.slice yw xU.length yx] 49 (0,0)) (bk_ xJ.out) hb)
            have yO:=Aside0.mk (aK (g:=xM) (o:=.cells #[.int .u64 0,.slice none 0 0] 53 (0,0)) (bk_ xP.out) hb)
            have yP:=Aside0.mk (aK (g:=xO) (o:=.cells #[.int .u64 0,.slice none 0 0] 53 (0,0)) (bk_ xS.out) hb)
            have yT:=Aside0.mk (aQ (by repeat (first|(with_reducible first|exact HB.out|apply ay|apply aj|apply av|refine ak ?_ xW.out|refine ak ?_ xY.out|refine ak ?_ yA.out|refine ak ?_ yB.out)|exact HB.out)) hb)
            clear xI
            clear xJ
            clear xP
            clear xS
            clear HB
            have xX:=yK
            have xI:=yL
            have xJ:=yM
            have xP:=yO
            have xS:=yP
            have HB:=yT
            clear yK yL yM yO yP yT
            (try clear hb)
            (try clear hb2)
            (try clear hk)
            (try clear hi)
            (try clear ho0)
            refine hK.out _ _ ⟨(au xI.out 0).trans rfl,(au xI.out 1).trans rfl,(au xJ.out 0).trans rfl,(au xJ.out 1).trans rfl⟩ (fun hHeld=>?_)
            clear hK K
            refine bV (a':=?_) ?_ ?_
            rotate_left
            ·show Act.put _ (some 20) _ = _
             simp only [Act.put,List.setIfInBounds_toArray,List.set_cons_zero,List.set_cons_succ,bD,bG]
             rfl
            exact bV (by first|(simp only [bL,Act.put,List.setIfInBounds_toArray,List.set_cons_zero,List.set_cons_succ];done)|(simp only [bL,Act.put,List.setIfInBounds_toArray,List.set_cons_zero,List.set_cons_succ];rfl)) (Ak (v227,xM,xO) _ ⟨hHeld,(by (with_reducible repeat (first|apply Kd.bM|apply Kd.bN|apply Kd.bW));exact xX.out),(bk_ xI.out),(bk_ xJ.out),(bk_ xP.out),(bk_ xS.out),ze.out,yA.out,yj.out,yC.out,yu.out,yF.out,yI.out,yJ.out,zf.out,yB.out,yt.out,yD.out,yE.out,yG.out,(by repeat (first|(with_reducible first|exact HB.out|apply ay|apply aj|apply av|refine ak ?_ xW.out|refine ak ?_ xY.out|refine ak ?_ yA.out|refine ak ?_ yB.out)|exact HB.out))⟩)
          ·skip
           rintro ⟨v227,xO⟩ zH ⟨hS_,zQ,zR,zS,zT,zV,Ab,Ac,Ad,Ae,Af,zN⟩
           have yK : Aside0 (Kd.S fA 103 zH w.heap.size (fun _=>True) v227 t226):=⟨zQ⟩
           have yL : Aside0 (zH.heap[xK]? = some (.cells #[.int .u64 xR,.slice xZ xQ.length yc] 49 (0,0))):=⟨zR⟩
           have yM : Aside0 (zH.heap[xL]? = some (.cells #[.int .u64 xV,.slice yw xU.length yx] 49 (0,0))):=⟨zS⟩
           have yO : Aside0 (zH.heap[xO]? = some (.cells #[.int .u64 0,.slice none 0 0] 53 (0,0))):=⟨zT⟩
           have yP : Aside0 (w.heap.size ≤ xO):=⟨zV⟩
           have yT : Aside0 (w.heap.size ≤ xO):=⟨Ab⟩
           have yU : Aside0 (xK ≠ xO):=⟨Ac⟩
           have zo : Aside0 (xO ≠ xK):=⟨Ad⟩
           have zq : Aside0 (xL ≠ xO):=⟨Ae⟩
           have zu : Aside0 (xO ≠ xL):=⟨Af⟩
           have yV : Aside0 (Below w.heap.size w zH):=⟨zN⟩
           clear xI
           clear xJ
           clear HB
           clear zQ zR zS zT zV Ab Ac Ad Ae Af zN
           have xX:=yK
           have xI:=yL
           have xJ:=yM
           have xS:=yO
           have zf:=yP
           have yB:=yT
           have yt:=yU
           have yD:=zo
           have yE:=zq
           have yG:=zu
           have HB:=yV
           clear yK yL yM yO yP yT yU zo zq zu yV
           have hHeld : zH.cell? ⟨xK,0,none⟩ = some (.int .u64 xR) ∧ zH.cell? ⟨xK,1,none⟩ = some (.slice xZ xQ.length yc) ∧ zH.cell? ⟨xL,0,none⟩ = some (.int .u64 xV) ∧ zH.cell? ⟨xL,1,none⟩ = some (.slice yw xU.length yx):=hS_
           refine bV (a':=?_) ?_ ?_
           rotate_left
           ·simp only [bL,Act.put,List.setIfInBounds_toArray,List.set_cons_zero,List.set_cons_succ]
            rfl
           refine jB (i:=3) (j:=4) (Ni:=some 22) (Nj:=some 5) #[true,true,true,true,false,true,false,false] #[true,true,true,false,true,true,false,false] rfl rfl rfl rfl (gL HT_.out (by kernel_rfl)) (by decide) (by decide) (fun K hK=>?_) (fun K hK=>?_)
           ·skip
            refine eD Tryd.func24 (by kernel_rfl) rfl #[.agg #[.int .u64 xV,.slice yw xU.length yx]] (by rfl) rfl rfl (by (try simp only [List.map_toArray,List.map_cons,List.map_nil]);first|done|rfl|(simp only [List.length_drop,List.length_take];rfl)) ?_
            with_reducible refine (bF.calls zh xV _ _ xU t229 yS _ ?yQ ?yR Dq.out).mono ?_
            (case yQ=>repeat (first|exact (Kd.dW Ah.out HB.out)|(with_reducible refine Kd.dw ?_ _)|(with_reducible refine Kd.dX ?_ _)|(with_reducible refine Kd.eu ?_)))
            (case yR=>exact Ai.out)
            rintro e zP ⟨zG,rfl,ho0,hb⟩
            refine ⟨_,rfl,?_⟩
            have yK:=Aside0.mk (Kd.jL (by (with_reducible repeat (first|apply Kd.bM|apply Kd.bN|apply Kd.bW));exact xX.out) (Kd.mX ho0) hb)
            have yL:=Aside0.mk (Kd.iI (Kd.mY ho0 (Kd.sM (by (with_reducible repeat (first|apply Kd.bM|apply Kd.bN|apply Kd.bW));exact xX.out))) (aV (by repeat (first|(with_reducible first|exact HB.out|apply ay|apply aj|apply av|refine ak ?_ xW.out|refine ak ?_ xY.out|refine ak ?_ yB.out)|exact HB.out))))
            have yM:=Aside0.mk (aK (g:=xK) (o:=.cells #[.int .u64 xR,.slice xZ xQ.length yc] 49 (0,0)) (bk_ xI.out) hb)
            have yO:=Aside0.mk (aK (g:=xL) (o:=.cells #[.int .u64 xV,.slice yw xU.length yx] 49 (0,0)) (bk_ xJ.out) hb)
            have yP:=Aside0.mk (aK (g:=xO) (o:=.cells #[.int .u64 0,.slice none 0 0] 53 (0,0)) (bk_ xS.out) hb)
            have yT:=Aside0.mk (aQ (by repeat (first|(with_reducible first|exact HB.out|apply ay|apply aj|apply av|refine ak ?_ xW.out|refine ak ?_ xY.out|refine ak ?_ yB.out)|exact HB.out)) hb)
            clear xX
            clear xI
            clear xJ
            clear xS
            clear HB
            have xX:=yK
            have yH:=yL
            have xI:=yM
            have xJ:=yO
            have xS:=yP
            have HB:=yT
            clear yK yL yM yO yP yT
            (try clear hb)
            (try clear hb2)
            (try clear hk)
            (try clear hi)
            (try clear ho0)
            refine hK.out _ _ ⟨(au xI.out 0).trans rfl,(au xI.out 1).trans rfl,(au xJ.out 0).trans rfl,(au xJ.out 1).trans rfl⟩ (fun hHeld=>?_)
            clear hK K
            refine bV (a':=?_) ?_ ?_
            rotate_left
            ·show Act.put _ (some 22) _ = _
             simp only [Act.put,List.setIfInBounds_toArray,List.set_cons_zero,List.set_cons_succ,bD,bG]
             rfl
            exact bV (by first|(simp only [bL,Act.put,List.setIfInBounds_toArray,List.set_cons_zero,List.set_cons_succ];done)|(simp only [bL,Act.put,List.setIfInBounds_toArray,List.set_cons_zero,List.set_cons_succ];rfl)) (AO (v227,zG,xO) _ ⟨hHeld,(by (with_reducible repeat (first|apply Kd.bM|apply Kd.bN|apply Kd.bW));exact Kd.eU xX.out (fun _ hk=>hk.2)),(by (with_reducible repeat (first|apply Kd.bM|apply Kd.bN|apply Kd.bW));exact Kd.eU yH.out (fun _ hk=>hk.2)),(bk_ xI.out),(bk_ xJ.out),(bk_ xS.out),zf.out,yB.out,yt.out,yD.out,yE.out,yG.out,(by repeat (first|(with_reducible first|exact HB.out|apply ay|apply aj|apply av|refine ak ?_ xW.out|refine ak ?_ xY.out|refine ak ?_ yB.out)|exact HB.out))⟩)
           ·skip
            refine fM ?hg (N:=5) ?hd (cs:=#[.int .u64 0,.slice none 0 0]) (t:=53) ?hr ?_;(case hd=>rfl);(case hg=>rfl);(case hr=>first|(go_simp;done)|(go_simp;rfl))
            intro xM hg zP hbox hb
            have yK:=Aside0.mk (Kd.dz (by (with_reducible repeat (first|apply Kd.bM|apply Kd.bN|apply Kd.bW));exact xX.out) hb)
            have yL:=Aside0.mk (aK (g:=xK) (o:=.cells #[.int .u64 xR,.slice xZ xQ.length yc] 49 (0,0)) (bk_ xI.out) hb)
            have yM:=Aside0.mk (aK (g:=xL) (o:=.cells #[.int .u64 xV,.slice yw xU.length yx] 49 (0,0)) (bk_ xJ.out) hb)
            have yO:=Aside0.mk (aK (g:=xO) (o:=.cells #[.int .u64 0,.slice none 0 0] 53 (0,0)) (bk_ xS.out) hb)
            have yP:=Aside0.mk (aQ (by repeat (first|(with_reducible first|exact HB.out|apply ay|apply aj|apply av|refine ak ?_ xW.out|refine ak ?_ xY.out|refine ak ?_ yB.out)|exact HB.out)) hb)
            have yT:=Aside0.mk (hbox)
            have yU:=Aside0.mk ((by rw [hg];exact (aV (by repeat (first|(with_reducible first|exact HB.out|apply ay|apply aj|apply av|refine ak ?_ xW.out|refine ak ?_ xY.out|refine ak ?_ yB.out)|exact HB.out))) : w.heap.size ≤ xM))
            have zo:=Aside0.mk ((by rw [hg];exact (aV (by repeat (first|(with_reducible first|exact HB.out|apply ay|apply aj|apply av|refine ak ?_ xW.out|refine ak ?_ xY.out|refine ak ?_ yB.out)|exact HB.out))) : w.heap.size ≤ xM))
            have zq:=Aside0.mk ((by rw [hg];exact Nat.ne_of_lt (bP (g:=xK) (o:=.cells #[.int .u64 xR,.slice xZ xQ.length yc] 49 (0,0)) (bk_ xI.out)) : xK ≠ xM))
            have zu:=Aside0.mk ((by rw [hg];exact Nat.ne_of_gt (bP (g:=xK) (o:=.cells #[.int .u64 xR,.slice xZ xQ.length yc] 49 (0,0)) (bk_ xI.out)) : xM ≠ xK))
            have yV:=Aside0.mk ((by rw [hg];exact Nat.ne_of_lt (bP (g:=xL) (o:=.cells #[.int .u64 xV,.slice yw xU.length yx] 49 (0,0)) (bk_ xJ.out)) : xL ≠ xM))
            have za:=Aside0.mk ((by rw [hg];exact Nat.ne_of_gt (bP (g:=xL) (o:=.cells #[.int .u64 xV,.slice yw xU.length yx] 49 (0,0)) (bk_ xJ.out)) : xM ≠ xL))
            have zB:=Aside0.mk ((by rw [hg];exact Nat.ne_of_lt (bP (g:=xO) (o:=.cells #[.int .u64 0,.slice none 0 0] 53 (0,0)) (bk_ xS.out)) : xO ≠ xM))
            have zO:=Aside0.mk ((by rw [hg];exact Nat.ne_of_gt (bP (g:=xO) (o:=.cells #[.int .u64 0,.slice none 0 0] 53 (0,0)) (bk_ xS.out)) : xM ≠ xO))
            clear xX
            clear xI
            clear xJ
            clear xS
            clear HB
            have xX:=yK
            have xI:=yL
            have xJ:=yM
            have xS:=yO
            have HB:=yP
            have xP:=yT
            have ze:=yU
            have yA:=zo
            have yj:=zq
            have yC:=zu
            have yu:=yV
            have yF:=za
            have yI:=zB
            have yJ:=zO
            clear yK yL yM yO yP yT yU zo zq zu yV za zB zO
            clear hb hbox hg
            refine hK.out _ _ ⟨(au xI.out 0).trans rfl,(au xI.out 1).trans rfl,(au xJ.out 0).trans rfl,(au xJ.out 1).trans rfl⟩ (fun hHeld=>?_)
            clear hK K
            refine bV (a':=?_) ?_ ?_
            rotate_left
            ·show Act.put _ (some 5) _ = _
             simp only [Act.put,List.setIfInBounds_toArray,List.set_cons_zero,List.set_cons_succ,bD,bG]
             rfl
            exact bV (by first|(simp only [bL,Act.put,List.setIfInBounds_toArray,List.set_cons_zero,List.set_cons_succ];done)|(simp only [bL,Act.put,List.setIfInBounds_toArray,List.set_cons_zero,List.set_cons_succ];rfl)) (Ak (v227,xM,xO) _ ⟨hHeld,(by (with_reducible repeat (first|apply Kd.bM|apply Kd.bN|apply Kd.bW));exact xX.out),(bk_ xI.out),(bk_ xJ.out),(bk_ xP.out),(bk_ xS.out),ze.out,yA.out,yj.out,yC.out,yu.out,yF.out,yI.out,yJ.out,zf.out,yB.out,yt.out,yD.out,yE.out,yG.out,(by repeat (first|(with_reducible first|exact HB.out|apply ay|apply aj|apply av|refine ak ?_ xW.out|refine ak ?_ xY.out|refine ak ?_ yB.out|refine ak ?_ yA.out)|exact HB.out))⟩)
         ·skip
          rintro ⟨v227,xM⟩ zH ⟨hS_,zQ,zR,zS,zT,zV,Ab,Ac,Ad,Ae,Af,zN⟩
          have yK : Aside0 (Kd.S fA 103 zH w.heap.size (fun _=>True) v227 t226):=⟨zQ⟩
          have yL : Aside0 (zH.heap[xK]? = some (.cells #[.int .u64 xR,.slice xZ xQ.length yc] 49 (0,0))):=⟨zR⟩
          have yM : Aside0 (zH.heap[xL]? = some (.cells #[.int .u64 xV,.slice yw xU.length yx] 49 (0,0))):=⟨zS⟩
          have yO : Aside0 (zH.heap[xM]? = some (.cells #[.int .u64 0,.slice none 0 0] 53 (0,0))):=⟨zT⟩
          have yP : Aside0 (w.heap.size ≤ xM):=⟨zV⟩
          have yT : Aside0 (w.heap.size ≤ xM):=⟨Ab⟩
          have yU : Aside0 (xK ≠ xM):=⟨Ac⟩
          have zo : Aside0 (xM ≠ xK):=⟨Ad⟩
          have zq : Aside0 (xL ≠ xM):=⟨Ae⟩
          have zu : Aside0 (xM ≠ xL):=⟨Af⟩
          have yV : Aside0 (Below w.heap.size w zH):=⟨zN⟩
          clear xI
          clear xJ
          clear HB
          clear zQ zR zS zT zV Ab Ac Ad Ae Af zN
          have xX:=yK
          have xI:=yL
          have xJ:=yM
          have xP:=yO
          have ze:=yP
          have yA:=yT
          have yj:=yU
          have yC:=zo
          have yu:=zq
          have yF:=zu
          have HB:=yV
          clear yK yL yM yO yP yT yU zo zq zu yV
          have hHeld : zH.cell? ⟨xK,0,none⟩ = some (.int .u64 xR) ∧ zH.cell? ⟨xK,1,none⟩ = some (.slice xZ xQ.length yc) ∧ zH.cell? ⟨xL,0,none⟩ = some (.int .u64 xV) ∧ zH.cell? ⟨xL,1,none⟩ = some (.slice yw xU.length yx):=hS_
          refine bV (a':=?_) ?_ ?_
          rotate_left
          ·simp only [bL,Act.put,List.setIfInBounds_toArray,List.set_cons_zero,List.set_cons_succ]
           rfl
          refine jB (i:=3) (j:=5) (Ni:=some 22) (Nj:=some 6) #[true,true,true,true,true,false,false,false] #[true,true,true,false,true,true,false,false] rfl rfl rfl rfl (gL HT_.out (by kernel_rfl)) (by decide) (by decide) (fun K hK=>?_) (fun K hK=>?_)
          ·skip
           refine eD Tryd.func24 (by kernel_rfl) rfl #[.agg #[.int .u64 xV,.slice yw xU.length yx]] (by rfl) rfl rfl (by (try simp only [List.map_toArray,List.map_cons,List.map_nil]);first|done|rfl|(simp only [List.length_drop,List.length_take];rfl)) ?_
           with_reducible refine (bF.calls zh xV _ _ xU t229 yS _ ?yQ ?yR Dq.out).mono ?_
           (case yQ=>repeat (first|exact (Kd.dW Ah.out HB.out)|(with_reducible refine Kd.dw ?_ _)|(with_reducible refine Kd.dX ?_ _)|(with_reducible refine Kd.eu ?_)))
           (case yR=>exact Ai.out)
           rintro e zP ⟨zG,rfl,ho0,hb⟩
           refine ⟨_,rfl,?_⟩
           have yK:=Aside0.mk (Kd.jL (by (with_reducible repeat (first|apply Kd.bM|apply Kd.bN|apply Kd.bW));exact xX.out) (Kd.mX ho0) hb)
           have yL:=Aside0.mk (Kd.iI (Kd.mY ho0 (Kd.sM (by (with_reducible repeat (first|apply Kd.bM|apply Kd.bN|apply Kd.bW));exact xX.out))) (aV (by repeat (first|(with_reducible first|exact HB.out|apply ay|apply aj|apply av|refine ak ?_ xW.out|refine ak ?_ xY.out|refine ak ?_ yA.out)|exact HB.out))))
           have yM:=Aside0.mk (aK (g:=xK) (o:=.cells #[.int .u64 xR,.slice xZ xQ.length yc] 49 (0,0)) (bk_ xI.out) hb)
           have yO:=Aside0.mk (aK (g:=xL) (o:=.cells #[.int .u64 xV,.slice yw xU.length yx] 49 (0,0)) (bk_ xJ.out) hb)
           have yP:=Aside0.mk (aK (g:=xM) (o:=.cells #[.int .u64 0,.slice none 0 0] 53 (0,0)) (bk_ xP.out) hb)
           have yT:=Aside0.mk (aQ (by repeat (first|(with_reducible first|exact HB.out|apply ay|apply aj|apply av|refine ak ?_ xW.out|refine ak ?_ xY.out|refine ak ?_ yA.out)|exact HB.out)) hb)
           clear xX
           clear xI
           clear xJ
           clear xP
           clear HB
           have xX:=yK
           have yH:=yL
           have xI:=yM
           have xJ:=yO
           have xP:=yP
           have HB:=yT
           clear yK yL yM yO yP yT
           (try clear hb)
           (try clear hb2)
           (try clear hk)
           (try clear hi)
           (try clear ho0)
           refine hK.out _ _ ⟨(au xI.out 0).trans rfl,(au xI.out 1).trans rfl,(au xJ.out 0).trans rfl,(au xJ.out 1).trans rfl⟩ (fun hHeld=>?_)
           clear hK K
           refine bV (a':=?_) ?_ ?_
           rotate_left
           ·show Act.put _ (some 22) _ = _
            simp only [Act.put,List.setIfInBounds_toArray,List.set_cons_zero,List.set_cons_succ,bD,bG]
            rfl
           exact bV (by first|(simp only [bL,Act.put,List.setIfInBounds_toArray,List.set_cons_zero,List.set_cons_succ];done)|(simp only [bL,Act.put,List.setIfInBounds_toArray,List.set_cons_zero,List.set_cons_succ];rfl)) (AL (v227,zG,xM) _ ⟨hHeld,(by (with_reducible repeat (first|apply Kd.bM|apply Kd.bN|apply Kd.bW));exact Kd.eU xX.out (fun _ hk=>hk.2)),(by (with_reducible repeat (first|apply Kd.bM|apply Kd.bN|apply Kd.bW));exact Kd.eU yH.out (fun _ hk=>hk.2)),(bk_ xI.out),(bk_ xJ.out),(bk_ xP.out),ze.out,yA.out,yj.out,yC.out,yu.out,yF.out,(by repeat (first|(with_reducible first|exact HB.out|apply ay|apply aj|apply av|refine ak ?_ xW.out|refine ak ?_ xY.out|refine ak ?_ yA.out)|exact HB.out))⟩)
          ·skip
           refine fM ?hg (N:=6) ?hd (cs:=#[.int .u64 0,.slice none 0 0]) (t:=53) ?hr ?_;(case hd=>rfl);(case hg=>rfl);(case hr=>first|(go_simp;done)|(go_simp;rfl))
           intro xO hg zP hbox hb
           have yK:=Aside0.mk (Kd.dz (by (with_reducible repeat (first|apply Kd.bM|apply Kd.bN|apply Kd.bW));exact xX.out) hb)
           have yL:=Aside0.mk (aK (g:=xK) (o:=.cells #[.int .u64 xR,.slice xZ xQ.length yc] 49 (0,0)) (bk_ xI.out) hb)
           have yM:=Aside0.mk (aK (g:=xL) (o:=.cells #[.int .u64 xV,.slice yw xU.length yx] 49 (0,0)) (bk_ xJ.out) hb)
           have yO:=Aside0.mk (aK (g:=xM) (o:=.cells #[.int .u64 0,.slice none 0 0] 53 (0,0)) (bk_ xP.out) hb)
           have yP:=Aside0.mk (aQ (by repeat (first|(with_reducible first|exact HB.out|apply ay|apply aj|apply av|refine ak ?_ xW.out|refine ak ?_ xY.out|refine ak ?_ yA.out)|exact HB.out)) hb)
           have yT:=Aside0.mk (hbox)
           have yU:=Aside0.mk ((by rw [hg];exact (aV (by repeat (first|(with_reducible first|exact HB.out|apply ay|apply aj|apply av|refine ak ?_ xW.out|refine ak ?_ xY.out|refine ak ?_ yA.out)|exact HB.out))) : w.heap.size ≤ xO))
           have zo:=Aside0.mk ((by rw [hg];exact (aV (by repeat (first|(with_reducible first|exact HB.out|apply ay|apply aj|apply av|refine ak ?_ xW.out|refine ak ?_ xY.out|refine ak ?_ yA.out)|exact HB.out))) : w.heap.size ≤ xO))
           have zq:=Aside0.mk ((by rw [hg];exact Nat.ne_of_lt (bP (g:=xK) (o:=.cells #[.int .u64 xR,.slice xZ xQ.length yc] 49 (0,0)) (bk_ xI.out)) : xK ≠ xO))
           have zu:=Aside0.mk ((by rw [hg];exact Nat.ne_of_gt (bP (g:=xK) (o:=.cells #[.int .u64 xR,.slice xZ xQ.length yc] 49 (0,0)) (bk_ xI.out)) : xO ≠ xK))
           have yV:=Aside0.mk ((by rw [hg];exact Nat.ne_of_lt (bP (g:=xL) (o:=.cells #[.int .u64 xV,.slice yw xU.length yx] 49 (0,0)) (bk_ xJ.out)) : xL ≠ xO))
           have za:=Aside0.mk ((by rw [hg];exact Nat.ne_of_gt (bP (g:=xL) (o:=.cells #[.int .u64 xV,.slice yw xU.length yx] 49 (0,0)) (bk_ xJ.out)) : xO ≠ xL))
           have zB:=Aside0.mk ((by rw [hg];exact Nat.ne_of_lt (bP (g:=xM) (o:=.cells #[.int .u64 0,.slice none 0 0] 53 (0,0)) (bk_ xP.out)) : xM ≠ xO))
           have zO:=Aside0.mk ((by rw [hg];exact Nat.ne_of_gt (bP (g:=xM) (o:=.cells #[.int .u64 0,.slice none 0 0] 53 (0,0)) (bk_ xP.out)) : xO ≠ xM))
           clear xX
           clear xI
           clear xJ
           clear xP
           clear HB
           have xX:=yK
           have xI:=yL
           have xJ:=yM
           have xP:=yO
           have HB:=yP
           have xS:=yT
           have zf:=yU
           have yB:=zo
           have yt:=zq
           have yD:=zu
           have yE:=yV
           have yG:=za
           have yJ:=zB
           have yI:=zO
           clear yK yL yM yO yP yT yU zo zq zu yV za zB zO
           clear hb hbox hg
           refine hK.out _ _ ⟨(au xI.out 0).trans rfl,(au xI.out 1).trans rfl,(au xJ.out 0).trans rfl,(au xJ.out 1).trans rfl⟩ (fun hHeld=>?_)
           clear hK K
           refine bV (a':=?_) ?_ ?_
           rotate_left
           ·show Act.put _ (some 6) _ = _
            simp only [Act.put,List.setIfInBounds_toArray,List.set_cons_zero,List.set_cons_succ,bD,bG]
            rfl
           exact bV (by first|(simp only [bL,Act.put,List.setIfInBounds_toArray,List.set_cons_zero,List.set_cons_succ];done)|(simp only [bL,Act.put,List.setIfInBounds_toArray,List.set_cons_zero,List.set_cons_succ];rfl)) (Ak (v227,xM,xO) _ ⟨hHeld,(by (with_reducible repeat (first|apply Kd.bM|apply Kd.bN|apply Kd.bW));exact xX.out),(bk_ xI.out),(bk_ xJ.out),(bk_ xP.out),(bk_ xS.out),ze.out,yA.out,yj.out,yC.out,yu.out,yF.out,yI.out,yJ.out,zf.out,yB.out,yt.out,yD.out,yE.out,yG.out,(by repeat (first|(with_reducible first|exact HB.out|apply ay|apply aj|apply av|refine ak ?_ xW.out|refine ak ?_ xY.out|refine ak ?_ yA.out|refine ak ?_ yB.out)|exact HB.out))⟩)
        ·skip
         rintro ⟨v227,zG⟩ zH ⟨hS_,zQ,zR,zS,zT,zV⟩
         have yK : Aside0 (Kd.S fA 103 zH w.heap.size (fun k_=>some k_ ≠ (zG : Value).ownBlock) v227 t226):=⟨zQ⟩
         have yL : Aside0 (Kd.S fA 103 zH w.heap.size (fun k_=>some k_ ≠ (v227 : Value).ownBlock) zG yS):=⟨zR⟩
         have yM : Aside0 (zH.heap[xK]? = some (.cells #[.int .u64 xR,.slice xZ xQ.length yc] 49 (0,0))):=⟨zS⟩
         have yO : Aside0 (zH.heap[xL]? = some (.cells #[.int .u64 xV,.slice yw xU.length yx] 49 (0,0))):=⟨zT⟩
         have yP : Aside0 (Below w.heap.size w zH):=⟨zV⟩
         clear xI
         clear xJ
         clear HB
         clear zQ zR zS zT zV
         have xX:=yK
         have yH:=yL
         have xI:=yM
         have xJ:=yO
         have HB:=yP
         clear yK yL yM yO yP
         have hHeld : zH.cell? ⟨xK,0,none⟩ = some (.int .u64 xR) ∧ zH.cell? ⟨xK,1,none⟩ = some (.slice xZ xQ.length yc) ∧ zH.cell? ⟨xL,0,none⟩ = some (.int .u64 xV) ∧ zH.cell? ⟨xL,1,none⟩ = some (.slice yw xU.length yx):=hS_
         refine bV (a':=?_) ?_ ?_
         rotate_left
         ·simp only [bL,Act.put,List.setIfInBounds_toArray,List.set_cons_zero,List.set_cons_succ]
          rfl
         refine jB (i:=4) (j:=5) (Ni:=some 5) (Nj:=some 6) #[true,true,true,true,true,false,false,false] #[true,true,true,true,false,true,false,false] rfl rfl rfl rfl (gL HT_.out (by kernel_rfl)) (by decide) (by decide) (fun K hK=>?_) (fun K hK=>?_)
         ·skip
          refine fM ?hg (N:=5) ?hd (cs:=#[.int .u64 0,.slice none 0 0]) (t:=53) ?hr ?_;(case hd=>rfl);(case hg=>rfl);(case hr=>first|(go_simp;done)|(go_simp;rfl))
          intro xM hg zP hbox hb
          have yK:=Aside0.mk (Kd.dz (by (with_reducible repeat (first|apply Kd.bM|apply Kd.bN|apply Kd.bW));exact xX.out) hb)
          have yL:=Aside0.mk (Kd.dz (by (with_reducible repeat (first|apply Kd.bM|apply Kd.bN|apply Kd.bW));exact yH.out) hb)
          have yM:=Aside0.mk (aK (g:=xK) (o:=.cells #[.int .u64 xR,.slice xZ xQ.length yc] 49 (0,0)) (bk_ xI.out) hb)
          have yO:=Aside0.mk (aK (g:=xL) (o:=.cells #[.int .u64 xV,.slice yw xU.length yx] 49 (0,0)) (bk_ xJ.out) hb)
          have yP:=Aside0.mk (aQ (by repeat (first|(with_reducible first|exact HB.out|apply ay|apply aj|apply av|refine ak ?_ xW.out|refine ak ?_ xY.out)|exact HB.out)) hb)
          have yT:=Aside0.mk (hbox)
          have yU:=Aside0.mk ((by rw [hg];exact (aV (by repeat (first|(with_reducible first|exact HB.out|apply ay|apply aj|apply av|refine ak ?_ xW.out|refine ak ?_ xY.out)|exact HB.out))) : w.heap.size ≤ xM))
          have zo:=Aside0.mk ((by rw [hg];exact (aV (by repeat (first|(with_reducible first|exact HB.out|apply ay|apply aj|apply av|refine ak ?_ xW.out|refine ak ?_ xY.out)|exact HB.out))) : w.heap.size ≤ xM))
          have zq:=Aside0.mk ((by rw [hg];exact Nat.ne_of_lt (bP (g:=xK) (o:=.cells #[.int .u64 xR,.slice xZ xQ.length yc] 49 (0,0)) (bk_ xI.out)) : xK ≠ xM))
          have zu:=Aside0.mk ((by rw [hg];exact Nat.ne_of_gt (bP (g:=xK) (o:=.cells #[.int .u64 xR,.slice xZ xQ.length yc] 49 (0,0)) (bk_ xI.out)) : xM ≠ xK))
          have yV:=Aside0.mk ((by rw [hg];exact Nat.ne_of_lt (bP (g:=xL) (o:=.cells #[.int .u64 xV,.slice yw xU.length yx] 49 (0,0)) (bk_ xJ.out)) : xL ≠ xM))
          have za:=Aside0.mk ((by rw [hg];exact Nat.ne_of_gt (bP (g:=xL) (o:=.cells #[.int .u64 xV,.slice yw xU.length yx] 49 (0,0)) (bk_ xJ.out)) : xM ≠ xL))
          clear xX
          clear yH
          clear xI
          clear xJ
          clear HB
          have xX:=yK
          have yH:=yL
          have xI:=yM
          have xJ:=yO
          have HB:=yP
          have xP:=yT
          have ze:=yU
          have yA:=zo
          have yj:=zq
          have yC:=zu
          have yu:=yV
          have yF:=za
          clear yK yL yM yO yP yT yU zo zq zu yV za
          clear hb hbox hg
          refine hK.out _ _ ⟨(au xI.out 0).trans rfl,(au xI.out 1).trans rfl,(au xJ.out 0).trans rfl,(au xJ.out 1).trans rfl⟩ (fun hHeld=>?_)
          clear hK K
          refine bV (a':=?_) ?_ ?_
          rotate_left
          ·show Act.put _ (some 5) _ = _
           simp only [Act.put,List.setIfInBounds_toArray,List.set_cons_zero,List.set_cons_succ,bD,bG]
           rfl
          exact bV (by first|(simp only [bL,Act.put,List.setIfInBounds_toArray,List.set_cons_zero,List.set_cons_succ];done)|(simp only [bL,Act.put,List.setIfInBounds_toArray,List.set_cons_zero,List.set_cons_succ];rfl)) (AL (v227,zG,xM) _ ⟨hHeld,(by (with_reducible repeat (first|apply Kd.bM|apply Kd.bN|apply Kd.bW));exact xX.out),(by (with_reducible repeat (first|apply Kd.bM|apply Kd.bN|apply Kd.bW));exact yH.out),(bk_ xI.out),(bk_ xJ.out),(bk_ xP.out),ze.out,yA.out,yj.out,yC.out,yu.out,yF.out,(by repeat (first|(with_reducible first|exact HB.out|apply ay|apply aj|apply av|refine ak ?_ xW.out|refine ak ?_ xY.out|refine ak ?_ yA.out)|exact HB.out))⟩)
         ·skip
          refine fM ?hg (N:=6) ?hd (cs:=#[.int .u64 0,.slice none 0 0]) (t:=53) ?hr ?_;(case hd=>rfl);(case hg=>rfl);(case hr=>first|(go_simp;done)|(go_simp;rfl))
          intro xO hg zP hbox hb
          have yK:=Aside0.mk (Kd.dz (by (with_reducible repeat (first|apply Kd.bM|apply Kd.bN|apply Kd.bW));exact xX.out) hb)
          have yL:=Aside0.mk (Kd.dz (by (with_reducible repeat (first|apply Kd.bM|apply Kd.bN|apply Kd.bW));exact yH.out) hb)
          have yM:=Aside0.mk (aK (g:=xK) (o:=.cells #[.int .u64 xR,.slice xZ xQ.length yc] 49 (0,0)) (bk_ xI.out) hb)
          have yO:=Aside0.mk (aK (g:=xL) (o:=.cells #[.int .u64 xV,.slice yw xU.length yx] 49 (0,0)) (bk_ xJ.out) hb)
          have yP:=Aside0.mk (aQ (by repeat (first|(with_reducible first|exact HB.out|apply ay|apply aj|apply av|refine ak ?_ xW.out|refine ak ?_ xY.out)|exact HB.out)) hb)
          have yT:=Aside0.mk (hbox)
          have yU:=Aside0.mk ((by rw [hg];exact (aV (by repeat (first|(with_reducible first|exact HB.out|apply ay|apply aj|apply av|refine ak ?_ xW.out|refine ak ?_ xY.out)|exact HB.out))) : w.heap.size ≤ xO))
          have zo:=Aside0.mk ((by rw [hg];exact (aV (by repeat (first|(with_reducible first|exact HB.out|apply ay|apply aj|apply av|refine ak ?_ xW.out|refine ak ?_ xY.out)|exact HB.out))) : w.heap.size ≤ xO))
          have zq:=Aside0.mk ((by rw [hg];exact Nat.ne_of_lt (bP (g:=xK) (o:=.cells #[.int .u64 xR,.slice xZ xQ.length yc] 49 (0,0)) (bk_ xI.out)) : xK ≠ xO))
          have zu:=Aside0.mk ((by rw [hg];exact Nat.ne_of_gt (bP (g:=xK) (o:=.cells #[.int .u64 xR,.slice xZ xQ.length yc] 49 (0,0)) (bk_ xI.out)) : xO ≠ xK))
          have yV:=Aside0.mk ((by rw [hg];exact Nat.ne_of_lt (bP (g:=xL) (o:=.cells #[.int .u64 xV,.slice yw xU.length yx] 49 (0,0)) (bk_ xJ.out)) : xL ≠ xO))
          have za:=Aside0.mk ((by rw [hg];exact Nat.ne_of_gt (bP (g:=xL) (o:=.cells #[.int .u64 xV,.slice yw xU.length yx] 49 (0,0)) (bk_ xJ.out)) : xO ≠ xL))
          clear xX
          clear yH
          clear xI
          clear xJ
          clear HB
          have xX:=yK
          have yH:=yL
          have xI:=yM
          have xJ:=yO
          have HB:=yP
          have xS:=yT
          have zf:=yU
          have yB:=zo
          have yt:=zq
          have yD:=zu
          have yE:=yV
          have yG:=za
          clear yK yL yM yO yP yT yU zo zq zu yV za
          clear hb hbox hg
          refine hK.out _ _ ⟨(au xI.out 0).trans rfl,(au xI.out 1).trans rfl,(au xJ.out 0).trans rfl,(au xJ.out 1).trans rfl⟩ (fun hHeld=>?_)
          clear hK K
          refine bV (a':=?_) ?_ ?_
          rotate_left
          ·show Act.put _ (some 6) _ = _
           simp only [Act.put,List.setIfInBounds_toArray,List.set_cons_zero,List.set_cons_succ,bD,bG]
           rfl
          exact bV (by first|(simp only [bL,Act.put,List.setIfInBounds_toArray,List.set_cons_zero,List.set_cons_succ];done)|(simp only [bL,Act.put,List.setIfInBounds_toArray,List.set_cons_zero,List.set_cons_succ];rfl)) (AO (v227,zG,xO) _ ⟨hHeld,(by (with_reducible repeat (first|apply Kd.bM|apply Kd.bN|apply Kd.bW));exact xX.out),(by (with_reducible repeat (first|apply Kd.bM|apply Kd.bN|apply Kd.bW));exact yH.out),(bk_ xI.out),(bk_ xJ.out),(bk_ xS.out),zf.out,yB.out,yt.out,yD.out,yE.out,yG.out,(by repeat (first|(with_reducible first|exact HB.out|apply ay|apply aj|apply av|refine ak ?_ xW.out|refine ak ?_ xY.out|refine ak ?_ yB.out)|exact HB.out))⟩)
       ·skip
        rintro ⟨v227,xM,xO⟩ zP ⟨hS_,zQ,zR,zS,zT,zV,Ab,Ac,Ad,Ae,Af,zN,zW,Ao,Ap,Aq,Ar,Au,Av,Aw,AU⟩
        have yK : Aside0 (Kd.S fA 103 zP w.heap.size (fun _=>True) v227 t226):=⟨zQ⟩
        have yL : Aside0 (zP.heap[xK]? = some (.cells #[.int .u64 xR,.slice xZ xQ.length yc] 49 (0,0))):=⟨zR⟩
        have yM : Aside0 (zP.heap[xL]? = some (.cells #[.int .u64 xV,.slice yw xU.length yx] 49 (0,0))):=⟨zS⟩
        have yO : Aside0 (zP.heap[xM]? = some (.cells #[.int .u64 0,.slice none 0 0] 53 (0,0))):=⟨zT⟩
        have yP : Aside0 (zP.heap[xO]? = some (.cells #[.int .u64 0,.slice none 0 0] 53 (0,0))):=⟨zV⟩
        have yT : Aside0 (w.heap.size ≤ xM):=⟨Ab⟩
        have yU : Aside0 (w.heap.size ≤ xM):=⟨Ac⟩
        have zo : Aside0 (xK ≠ xM):=⟨Ad⟩
        have zq : Aside0 (xM ≠ xK):=⟨Ae⟩
        have zu : Aside0 (xL ≠ xM):=⟨Af⟩
        have yV : Aside0 (xM ≠ xL):=⟨zN⟩
        have za : Aside0 (xO ≠ xM):=⟨zW⟩
        have zB : Aside0 (xM ≠ xO):=⟨Ao⟩
        have zO : Aside0 (w.heap.size ≤ xO):=⟨Ap⟩
        have zX : Aside0 (w.heap.size ≤ xO):=⟨Aq⟩
        have Ay : Aside0 (xK ≠ xO):=⟨Ar⟩
        have Az : Aside0 (xO ≠ xK):=⟨Au⟩
        have AA : Aside0 (xL ≠ xO):=⟨Av⟩
        have AB : Aside0 (xO ≠ xL):=⟨Aw⟩
        have AV : Aside0 (Below w.heap.size w zP):=⟨AU⟩
        clear xI
        clear xJ
        clear HB
        clear zQ zR zS zT zV Ab Ac Ad Ae Af zN zW Ao Ap Aq Ar Au Av Aw AU
        have xX:=yK
        have xI:=yL
        have xJ:=yM
        have xP:=yO
        have xS:=yP
        have ze:=yT
        have yA:=yU
        have yj:=zo
        have yC:=zq
        have yu:=zu
        have yF:=yV
        have yI:=za
        have yJ:=zB
        have zf:=zO
        have yB:=zX
        have yt:=Ay
        have yD:=Az
        have yE:=AA
        have yG:=AB
        have HB:=AV
        clear yK yL yM yO yP yT yU zo zq zu yV za zB zO zX Ay Az AA AB AV
        have hHeld : zP.cell? ⟨xK,0,none⟩ = some (.int .u64 xR) ∧ zP.cell? ⟨xK,1,none⟩ = some (.slice xZ xQ.length yc) ∧ zP.cell? ⟨xL,0,none⟩ = some (.int .u64 xV) ∧ zP.cell? ⟨xL,1,none⟩ = some (.slice yw xU.length yx):=hS_
        refine bV (a':=?_) ?_ ?_
        rotate_left
        ·simp only [bL,Act.put,List.setIfInBounds_toArray,List.set_cons_zero,List.set_cons_succ]
         rfl
        refine fV (i:=3) (N:=some 22) #[true,true,true,true,true,true,false,false] rfl rfl (eB HT_.out (by kernel_rfl)) (by decide) (fun K hK=>?_)
        refine eD Tryd.func24 (by kernel_rfl) rfl #[.agg #[.int .u64 xV,.slice yw xU.length yx]] (by rfl) rfl rfl (by (try simp only [List.map_toArray,List.map_cons,List.map_nil]);first|done|rfl|(simp only [List.length_drop,List.length_take];rfl)) ?_
        with_reducible refine (bF.calls zh xV _ _ xU t229 yS _ ?yQ ?yR Dq.out).mono ?_
        (case yQ=>repeat (first|exact (Kd.dW Ah.out HB.out)|(with_reducible refine Kd.dw ?_ _)|(with_reducible refine Kd.dX ?_ _)|(with_reducible refine Kd.eu ?_)))
        (case yR=>exact Ai.out)
        rintro e Aj ⟨zG,rfl,ho0,hb⟩
        refine ⟨_,rfl,?_⟩
        have yK:=Aside0.mk (Kd.jL (by (with_reducible repeat (first|apply Kd.bM|apply Kd.bN|apply Kd.bW));exact xX.out) (Kd.mX ho0) hb)
        have yL:=Aside0.mk (Kd.iI (Kd.mY ho0 (Kd.sM (by (with_reducible repeat (first|apply Kd.bM|apply Kd.bN|apply Kd.bW));exact xX.out))) (aV (by repeat (first|(with_reducible first|exact HB.out|apply ay|apply aj|apply av|refine ak ?_ xW.out|refine ak ?_ xY.out|refine ak ?_ yA.out|refine ak ?_ yB.out)|exact HB.out))))
        have yM:=Aside0.mk (aK (g:=xK) (o:=.cells #[.int .u64 xR,.slice xZ xQ.length yc] 49 (0,0)) (bk_ xI.out) hb)
        have yO:=Aside0.mk (aK (g:=xL) (o:=.cells #[.int .u64 xV,.slice yw xU.length yx] 49 (0,0)) (bk_ xJ.out) hb)
        have yP:=Aside0.mk (aK (g:=xM) (o:=.cells #[.int .u64 0,.slice none 0 0] 53 (0,0)) (bk_ xP.out) hb)
        have yT:=Aside0.mk (aK (g:=xO) (o:=.cells #[.int .u64 0,.slice none 0 0] 53 (0,0)) (bk_ xS.out) hb)
        have yU:=Aside0.mk (aQ (by repeat (first|(with_reducible first|exact HB.out|apply ay|apply aj|apply av|refine ak ?_ xW.out|refine ak ?_ xY.out|refine ak ?_ yA.out|refine ak ?_ yB.out)|exact HB.out)) hb)
        clear xX
        clear xI
        clear xJ
        clear xP
        clear xS
        clear HB
        have xX:=yK
        have yH:=yL
        have xI:=yM
        have xJ:=yO
        have xP:=yP
        have xS:=yT
        have HB:=yU
        clear yK yL yM yO yP yT yU
        (try clear hb)
        (try clear hb2)
        (try clear hk)
        (try clear hi)
        (try clear ho0)
        refine hK.out _ _ ⟨(au xI.out 0).trans rfl,(au xI.out 1).trans rfl,(au xJ.out 0).trans rfl,(au xJ.out 1).trans rfl⟩ (fun hHeld=>?_)
        clear hK K
        refine bV (a':=?_) ?_ ?_
        rotate_left
        ·show Act.put _ (some 22) _ = _
         simp only [Act.put,List.setIfInBounds_toArray,List.set_cons_zero,List.set_cons_succ,bD,bG]
         rfl
        exact bV (by first|(simp only [bL,Act.put,List.setIfInBounds_toArray,List.set_cons_zero,List.set_cons_succ];done)|(simp only [bL,Act.put,List.setIfInBounds_toArray,List.set_cons_zero,List.set_cons_succ];rfl)) (z8 (v227,zG,xM,xO) _ ⟨hHeld,(by (with_reducible repeat (first|apply Kd.bM|apply Kd.bN|apply Kd.bW));exact Kd.eU xX.out (fun _ hk=>hk.2)),(by (with_reducible repeat (first|apply Kd.bM|apply Kd.bN|apply Kd.bW));exact Kd.eU yH.out (fun _ hk=>hk.2)),(bk_ xI.out),(bk_ xJ.out),(bk_ xP.out),(bk_ xS.out),ze.out,yA.out,yj.out,yC.out,yu.out,yF.out,yI.out,yJ.out,zf.out,yB.out,yt.out,yD.out,yE.out,yG.out,(by repeat (first|(with_reducible first|exact HB.out|apply ay|apply aj|apply av|refine ak ?_ xW.out|refine ak ?_ xY.out|refine ak ?_ yA.out|refine ak ?_ yB.out)|exact HB.out))⟩)
      ·skip
       rintro ⟨v227,zG,xO⟩ zP ⟨hS_,zQ,zR,zS,zT,zV,Ab,Ac,Ad,Ae,Af,zN,zW⟩
       have yK : Aside0 (Kd.S fA 103 zP w.heap.size (fun k_=>some k_ ≠ (zG : Value).ownBlock) v227 t226):=⟨zQ⟩
       have yL : Aside0 (Kd.S fA 103 zP w.heap.size (fun k_=>some k_ ≠ (v227 : Value).ownBlock) zG yS):=⟨zR⟩
       have yM : Aside0 (zP.heap[xK]? = some (.cells #[.int .u64 xR,.slice xZ xQ.length yc] 49 (0,0))):=⟨zS⟩
       have yO : Aside0 (zP.heap[xL]? = some (.cells #[.int .u64 xV,.slice yw xU.length yx] 49 (0,0))):=⟨zT⟩
       have yP : Aside0 (zP.heap[xO]? = some (.cells #[.int .u64 0,.slice none 0 0] 53 (0,0))):=⟨zV⟩
       have yT : Aside0 (w.heap.size ≤ xO):=⟨Ab⟩
       have yU : Aside0 (w.heap.size ≤ xO):=⟨Ac⟩
       have zo : Aside0 (xK ≠ xO):=⟨Ad⟩
       have zq : Aside0 (xO ≠ xK):=⟨Ae⟩
       have zu : Aside0 (xL ≠ xO):=⟨Af⟩
       have yV : Aside0 (xO ≠ xL):=⟨zN⟩
       have za : Aside0 (Below w.heap.size w zP):=⟨zW⟩
       clear xI
       clear xJ
       clear HB
       clear zQ zR zS zT zV Ab Ac Ad Ae Af zN zW
       have xX:=yK
       have yH:=yL
       have xI:=yM
       have xJ:=yO
       have xS:=yP
       have zf:=yT
       have yB:=yU
       have yt:=zo
       have yD:=zq
       have yE:=zu
       have yG:=yV
       have HB:=za
       clear yK yL yM yO yP yT yU zo zq zu yV za
       have hHeld : zP.cell? ⟨xK,0,none⟩ = some (.int .u64 xR) ∧ zP.cell? ⟨xK,1,none⟩ = some (.slice xZ xQ.length yc) ∧ zP.cell? ⟨xL,0,none⟩ = some (.int .u64 xV) ∧ zP.cell? ⟨xL,1,none⟩ = some (.slice yw xU.length yx):=hS_
       refine bV (a':=?_) ?_ ?_
       rotate_left
       ·simp only [bL,Act.put,List.setIfInBounds_toArray,List.set_cons_zero,List.set_cons_succ]
        rfl
       refine fV (i:=4) (N:=some 5) #[true,true,true,true,true,true,false,false] rfl rfl (eB HT_.out (by kernel_rfl)) (by decide) (fun K hK=>?_)
       refine fM ?hg (N:=5) ?hd (cs:=#[.int .u64 0,.slice none 0 0]) (t:=53) ?hr ?_;(case hd=>rfl);(case hg=>rfl);(case hr=>first|(go_simp;done)|(go_simp;rfl))
       intro xM hg Aj hbox hb
       have yK:=Aside0.mk (Kd.dz (by (with_reducible repeat (first|apply Kd.bM|apply Kd.bN|apply Kd.bW));exact xX.out) hb)
       have yL:=Aside0.mk (Kd.dz (by (with_reducible repeat (first|apply Kd.bM|apply Kd.bN|apply Kd.bW));exact yH.out) hb)
       have yM:=Aside0.mk (aK (g:=xK) (o:=.cells #[.int .u64 xR,.slice xZ xQ.length yc] 49 (0,0)) (bk_ xI.out) hb)
       have yO:=Aside0.mk (aK (g:=xL) (o:=.cells #[.int .u64 xV,.slice yw xU.length yx] 49 (0,0)) (bk_ xJ.out) hb)
       have yP:=Aside0.mk (aK (g:=xO) (o:=.cells #[.int .u64 0,.slice none 0 0] 53 (0,0)) (bk_ xS.out) hb)
       have yT:=Aside0.mk (aQ (by repeat (first|(with_reducible first|exact HB.out|apply ay|apply aj|apply av|refine ak ?_ xW.out|refine ak ?_ xY.out|refine ak ?_ yB.out)|exact HB.out)) hb)
       have yU:=Aside0.mk (hbox)
       have zo:=Aside0.mk ((by rw [hg];exact (aV (by repeat (first|(with_reducible first|exact HB.out|apply ay|apply aj|apply av|refine ak ?_ xW.out|refine ak ?_ xY.out|refine ak ?_ yB.out)|exact HB.out))) : w.heap.size ≤ xM))
       have zq:=Aside0.mk ((by rw [hg];exact (aV (by repeat (first|(with_reducible first|exact HB.out|apply ay|apply aj|apply av|refine ak ?_ xW.out|refine ak ?_ xY.out|refine ak ?_ yB.out)|exact HB.out))) : w.heap.size ≤ xM))
       have zu:=Aside0.mk ((by rw [hg];exact Nat.ne_of_lt (bP (g:=xK) (o:=.cells #[.int .u64 xR,.slice xZ xQ.length yc] 49 (0,0)) (bk_ xI.out)) : xK ≠ xM))
       have yV:=Aside0.mk ((by rw [hg];exact Nat.ne_of_gt (bP (g:=xK) (o:=.cells #[.int .u64 xR,.slice xZ xQ.length yc] 49 (0,0)) (bk_ xI.out)) : xM ≠ xK))
       have za:=Aside0.mk ((by rw [hg];exact Nat.ne_of_lt (bP (g:=xL) (o:=.cells #[.int .u64 xV,.slice yw xU.length yx] 49 (0,0)) (bk_ xJ.out)) : xL ≠ xM))
       have zB:=Aside0.mk ((by rw [hg];exact Nat.ne_of_gt (bP (g:=xL) (o:=.cells #[.int .u64 xV,.slice yw xU.length yx] 49 (0,0)) (bk_ xJ.out)) : xM ≠ xL))
       have zO:=Aside0.mk ((by rw [hg];exact Nat.ne_of_lt (bP (g:=xO) (o:=.cells #[.int .u64 0,.slice none 0 0] 53 (0,0)) (bk_ xS.out)) : xO ≠ xM))
       have zX:=Aside0.mk ((by rw [hg];exact Nat.ne_of_gt (bP (g:=xO) (o:=.cells #[.int .u64 0,.slice none 0 0] 53 (0,0)) (bk_ xS.out)) : xM ≠ xO))
       clear xX
       clear yH
       clear xI
       clear xJ
       clear xS
       clear HB
       have xX:=yK
       have yH:=yL
       have xI:=yM
       have xJ:=yO
       have xS:=yP
       have HB:=yT
       have xP:=yU
       have ze:=zo
       have yA:=zq
       have yj:=zu
       have yC:=yV
       have yu:=za
       have yF:=zB
       have yI:=zO
       have yJ:=zX
       clear yK yL yM yO yP yT yU zo zq zu yV za zB zO zX
       clear hb hbox hg
       refine hK.out _ _ ⟨(au xI.out 0).trans rfl,(au xI.out 1).trans rfl,(au xJ.out 0).trans rfl,(au xJ.out 1).trans rfl⟩ (fun hHeld=>?_)
       clear hK K
       refine bV (a':=?_) ?_ ?_
       rotate_left
       ·show Act.put _ (some 5) _ = _
        simp only [Act.put,List.setIfInBounds_toArray,List.set_cons_zero,List.set_cons_succ,bD,bG]
        rfl
       exact bV (by first|(simp only [bL,Act.put,List.setIfInBounds_toArray,List.set_cons_zero,List.set_cons_succ];done)|(simp only [bL,Act.put,List.setIfInBounds_toArray,List.set_cons_zero,List.set_cons_succ];rfl)) (z8 (v227,zG,xM,xO) _ ⟨hHeld,(by (with_reducible repeat (first|apply Kd.bM|apply Kd.bN|apply Kd.bW));exact xX.out),(by (with_reducible repeat (first|apply Kd.bM|apply Kd.bN|apply Kd.bW));exact yH.out),(bk_ xI.out),(bk_ xJ.out),(bk_ xP.out),(bk_ xS.out),ze.out,yA.out,yj.out,yC.out,yu.out,yF.out,yI.out,yJ.out,zf.out,yB.out,yt.out,yD.out,yE.out,yG.out,(by repeat (first|(with_reducible first|exact HB.out|apply ay|apply aj|apply av|refine ak ?_ xW.out|refine ak ?_ xY.out|refine ak ?_ yB.out|refine ak ?_ yA.out)|exact HB.out))⟩)
     ·skip
      rintro ⟨v227,zG,xM⟩ zP ⟨hS_,zQ,zR,zS,zT,zV,Ab,Ac,Ad,Ae,Af,zN,zW⟩
      have yK : Aside0 (Kd.S fA 103 zP w.heap.size (fun k_=>some k_ ≠ (zG : Value).ownBlock) v227 t226):=⟨zQ⟩
      have yL : Aside0 (Kd.S fA 103 zP w.heap.size (fun k_=>some k_ ≠ (v227 : Value).ownBlock) zG yS):=⟨zR⟩
      have yM : Aside0 (zP.heap[xK]? = some (.cells #[.int .u64 xR,.slice xZ xQ.length yc] 49 (0,0))):=⟨zS⟩
      have yO : Aside0 (zP.heap[xL]? = some (.cells #[.int .u64 xV,.slice yw xU.length yx] 49 (0,0))):=⟨zT⟩
      have yP : Aside0 (zP.heap[xM]? = some (.cells #[.int .u64 0,.slice none 0 0] 53 (0,0))):=⟨zV⟩
      have yT : Aside0 (w.heap.size ≤ xM):=⟨Ab⟩
      have yU : Aside0 (w.heap.size ≤ xM):=⟨Ac⟩
      have zo : Aside0 (xK ≠ xM):=⟨Ad⟩
      have zq : Aside0 (xM ≠ xK):=⟨Ae⟩
      have zu : Aside0 (xL ≠ xM):=⟨Af⟩
      have yV : Aside0 (xM ≠ xL):=⟨zN⟩
      have za : Aside0 (Below w.heap.size w zP):=⟨zW⟩
      clear xI
      clear xJ
      clear HB
      clear zQ zR zS zT zV Ab Ac Ad Ae Af zN zW
      have xX:=yK
      have yH:=yL
      have xI:=yM
      have xJ:=yO
      have xP:=yP
      have ze:=yT
      have yA:=yU
      have yj:=zo
      have yC:=zq
      have yu:=zu
      have yF:=yV
      have HB:=za
      clear yK yL yM yO yP yT yU zo zq zu yV za
      have hHeld : zP.cell? ⟨xK,0,none⟩ = some (.int .u64 xR) ∧ zP.cell? ⟨xK,1,none⟩ = some (.slice xZ xQ.length yc) ∧ zP.cell? ⟨xL,0,none⟩ = some (.int .u64 xV) ∧ zP.cell? ⟨xL,1,none⟩ = some (.slice yw xU.length yx):=hS_
      refine bV (a':=?_) ?_ ?_
      rotate_left
      ·simp only [bL,Act.put,List.setIfInBounds_toArray,List.set_cons_zero,List.set_cons_succ]
       rfl
      refine fV (i:=5) (N:=some 6) #[true,true,true,true,true,true,false,false] rfl rfl (eB HT_.out (by kernel_rfl)) (by decide) (fun K hK=>?_)
      refine fM ?hg (N:=6) ?hd (cs:=#[.int .u64 0,.slice none 0 0]) (t:=53) ?hr ?_;(case hd=>rfl);(case hg=>rfl);(case hr=>first|(go_simp;done)|(go_simp;rfl))
      intro xO hg Aj hbox hb
      have yK:=Aside0.mk (Kd.dz (by (with_reducible repeat (first|apply Kd.bM|apply Kd.bN|apply Kd.bW));exact xX.out) hb)
      have yL:=Aside0.mk (Kd.dz (by (with_reducible repeat (first|apply Kd.bM|apply Kd.bN|apply Kd.bW));exact yH.out) hb)
      have yM:=Aside0.mk (aK (g:=xK) (o:=.cells #[.int .u64 xR,.slice xZ xQ.length yc] 49 (0,0)) (bk_ xI.out) hb)
      have yO:=Aside0.mk (aK (g:=xL) (o:=.cells #[.int .u64 xV,.slice yw xU.length yx] 49 (0,0)) (bk_ xJ.out) hb)
      have yP:=Aside0.mk (aK (g:=xM) (o:=.cells #[.int .u64 0,.slice none 0 0] 53 (0,0)) (bk_ xP.out) hb)
      have yT:=Aside0.mk (aQ (by repeat (first|(with_reducible first|exact HB.out|apply ay|apply aj|apply av|refine ak ?_ xW.out|refine ak ?_ xY.out|refine ak ?_ yA.out)|exact HB.out)) hb)
      have yU:=Aside0.mk (hbox)
      have zo:=Aside0.mk ((by rw [hg];exact (aV (by repeat (first|(with_reducible first|exact HB.out|apply ay|apply aj|apply av|refine ak ?_ xW.out|refine ak ?_ xY.out|refine ak ?_ yA.out)|exact HB.out))) : w.heap.size ≤ xO))
      have zq:=Aside0.mk ((by rw [hg];exact (aV (by repeat (first|(with_reducible first|exact HB.out|apply ay|apply aj|apply av|refine ak ?_ xW.out|refine ak ?_ xY.out|refine ak ?_ yA.out)|exact HB.out))) : w.heap.size ≤ xO))
      have zu:=Aside0.mk ((by rw [hg];exact Nat.ne_of_lt (bP (g:=xK) (o:=.cells #[.int .u64 xR,.slice xZ xQ.length yc] 49 (0,0)) (bk_ xI.out)) : xK ≠ xO))
      have yV:=Aside0.mk ((by rw [hg];exact Nat.ne_of_gt (bP (g:=xK) (o:=.cells #[.int .u64 xR,.slice xZ xQ.length yc] 49 (0,0)) (bk_ xI.out)) : xO ≠ xK))
      have za:=Aside0.mk ((by rw [hg];exact Nat.ne_of_lt (bP (g:=xL) (o:=.cells #[.int .u64 xV,.slice yw xU.length yx] 49 (0,0)) (bk_ xJ.out)) : xL ≠ xO))
      have zB:=Aside0.mk ((by rw [hg];exact Nat.ne_of_gt (bP (g:=xL) (o:=.cells #[.int .u64 xV,.slice yw xU.length yx] 49 (0,0)) (bk_ xJ.out)) : xO ≠ xL))
      have zO:=Aside0.mk ((by rw [hg];exact Nat.ne_of_lt (bP (g:=xM) (o:=.cells #[.int .u64 0,.slice none 0 0] 53 (0,0)) (bk_ xP.out)) : xM ≠ xO))
      have zX:=Aside0.mk ((by rw [hg];exact Nat.ne_of_gt (bP (g:=xM) (o:=.cells #[.int .u64 0,.slice none 0 0] 53 (0,0)) (bk_ xP.out)) : xO ≠ xM))
      clear xX
      clear yH
      clear xI
      clear xJ
      clear xP
      clear HB
      have xX:=yK
      have yH:=yL
      have xI:=yM
      have xJ:=yO
      have xP:=yP
      have HB:=yT
      have xS:=yU
      have zf:=zo
      have yB:=zq
      have yt:=zu
      have yD:=yV
      have yE:=za
      have yG:=zB
      have yJ:=zO
      have yI:=zX
      clear yK yL yM yO yP yT yU zo zq zu yV za zB zO zX
      clear hb hbox hg
      refine hK.out _ _ ⟨(au xI.out 0).trans rfl,(au xI.out 1).trans rfl,(au xJ.out 0).trans rfl,(au xJ.out 1).trans rfl⟩ (fun hHeld=>?_)
      clear hK K
      refine bV (a':=?_) ?_ ?_
      rotate_left
      ·show Act.put _ (some 6) _ = _
       simp only [Act.put,List.setIfInBounds_toArray,List.set_cons_zero,List.set_cons_succ,bD,bG]
       rfl
      exact bV (by first|(simp only [bL,Act.put,List.setIfInBounds_toArray,List.set_cons_zero,List.set_cons_succ];done)|(simp only [bL,Act.put,List.setIfInBounds_toArray,List.set_cons_zero,List.set_cons_succ];rfl)) (z8 (v227,zG,xM,xO) _ ⟨hHeld,(by (with_reducible repeat (first|apply Kd.bM|apply Kd.bN|apply Kd.bW));exact xX.out),(by (with_reducible repeat (first|apply Kd.bM|apply Kd.bN|apply Kd.bW));exact yH.out),(bk_ xI.out),(bk_ xJ.out),(bk_ xP.out),(bk_ xS.out),ze.out,yA.out,yj.out,yC.out,yu.out,yF.out,yI.out,yJ.out,zf.out,yB.out,yt.out,yD.out,yE.out,yG.out,(by repeat (first|(with_reducible first|exact HB.out|apply ay|apply aj|apply av|refine ak ?_ xW.out|refine ak ?_ xY.out|refine ak ?_ yA.out|refine ak ?_ yB.out)|exact HB.out))⟩)
    rintro ⟨v227,zG,xM,xO⟩ Aj ⟨hS_,zQ,zR,zS,zT,zV,Ab,Ac,Ad,Ae,Af,zN,zW,Ao,Ap,Aq,Ar,Au,Av,Aw,AU,C8⟩
    have yK : Aside0 (Kd.S fA 103 Aj w.heap.size (fun k_=>some k_ ≠ (zG : Value).ownBlock) v227 t226):=⟨zQ⟩
    have yL : Aside0 (Kd.S fA 103 Aj w.heap.size (fun k_=>some k_ ≠ (v227 : Value).ownBlock) zG yS):=⟨zR⟩
    have yM : Aside0 (Aj.heap[xK]? = some (.cells #[.int .u64 xR,.slice xZ xQ.length yc] 49 (0,0))):=⟨zS⟩
    have yO : Aside0 (Aj.heap[xL]? = some (.cells #[.int .u64 xV,.slice yw xU.length yx] 49 (0,0))):=⟨zT⟩
    have yP : Aside0 (Aj.heap[xM]? = some (.cells #[.int .u64 0,.slice none 0 0] 53 (0,0))):=⟨zV⟩
    have yT : Aside0 (Aj.heap[xO]? = some (.cells #[.int .u64 0,.slice none 0 0] 53 (0,0))):=⟨Ab⟩
    have yU : Aside0 (w.heap.size ≤ xM):=⟨Ac⟩
    have zo : Aside0 (w.heap.size ≤ xM):=⟨Ad⟩
    have zq : Aside0 (xK ≠ xM):=⟨Ae⟩
    have zu : Aside0 (xM ≠ xK):=⟨Af⟩
    have yV : Aside0 (xL ≠ xM):=⟨zN⟩
    have za : Aside0 (xM ≠ xL):=⟨zW⟩
    have zB : Aside0 (xO ≠ xM):=⟨Ao⟩
    have zO : Aside0 (xM ≠ xO):=⟨Ap⟩
    have zX : Aside0 (w.heap.size ≤ xO):=⟨Aq⟩
    have Ay : Aside0 (w.heap.size ≤ xO):=⟨Ar⟩
    have Az : Aside0 (xK ≠ xO):=⟨Au⟩
    have AA : Aside0 (xO ≠ xK):=⟨Av⟩
    have AB : Aside0 (xL ≠ xO):=⟨Aw⟩
    have AV : Aside0 (xO ≠ xL):=⟨AU⟩
    have C9 : Aside0 (Below w.heap.size w Aj):=⟨C8⟩
    clear xI
    clear xJ
    clear HB
    clear zQ zR zS zT zV Ab Ac Ad Ae Af zN zW Ao Ap Aq Ar Au Av Aw AU C8
    have xX:=yK
    have yH:=yL
    have xI:=yM
    have xJ:=yO
    have xP:=yP
    have xS:=yT
    have ze:=yU
    have yA:=zo
    have yj:=zq
    have yC:=zu
    have yu:=yV
    have yF:=za
    have yI:=zB
    have yJ:=zO
    have zf:=zX
    have yB:=Ay
    have yt:=Az
    have yD:=AA
    have yE:=AB
    have yG:=AV
    have HB:=C9
    clear yK yL yM yO yP yT yU zo zq zu yV za zB zO zX Ay Az AA AB AV C9
    have hHeld : Aj.cell? ⟨xK,0,none⟩ = some (.int .u64 xR) ∧ Aj.cell? ⟨xK,1,none⟩ = some (.slice xZ xQ.length yc) ∧ Aj.cell? ⟨xL,0,none⟩ = some (.int .u64 xV) ∧ Aj.cell? ⟨xL,1,none⟩ = some (.slice yw xU.length yx):=hS_
    obtain ⟨zw,zl,Da⟩:=Kd.kS xX.out
    (first|subst Da|(injection Da with Db D7 Dc;have D8:=Db.symm;have D9:=Dc.symm;clear Db D7 Dc;subst D8;subst D9))
    obtain ⟨zy,zA,Df⟩:=Kd.kS yH.out
    (first|subst Df|(injection Df with Db D7 Dc;have D8:=Db.symm;have D9:=Dc.symm;clear Db D7 Dc;subst D8;subst D9))
    refine bV (a':=?_) ?_ ?_
    rotate_left
    ·simp only [bL,Act.put,List.setIfInBounds_toArray,List.set_cons_zero,List.set_cons_succ]
     rfl
    refine fV (i:=6) (N:=none) #[true,true,true,true,true,true,true,false] rfl rfl (eB HT_.out (by kernel_rfl)) (by decide) (fun K hK=>?_)
    have FY : Aj.cell? ⟨xM,0,none⟩ = some (.int .u64 0):=(au xP.out 0).trans rfl
    have El:=aH xP.out 0
    have Dr:=yj.out
    have Dt:=yu.out
    have Du:=yI.out
    have Dv:=yC.out
    have Dw:=yF.out
    have Dx:=yJ.out
    have FZ : Aj.cell? ⟨xM,1,none⟩ = some (.slice none 0 0):=(au xP.out 1).trans rfl
    have Em:=aH xP.out 1
    have Dy:=yj.out
    have Dz:=yu.out
    have DC:=yI.out
    have DF:=yC.out
    have DI:=yF.out
    have DJ:=yJ.out
    refine tN (w1:=?_) (by rfl) rfl ?_ ?_
    rotate_left
    ·go_simp
     rfl
    refine hK.out _ _ ⟨((cell_far (p:=⟨xM,_,none⟩) yj.out _).trans (((cell_far (p:=⟨xM,_,none⟩) yj.out _).trans (hHeld.1)))),((cell_far (p:=⟨xM,_,none⟩) yj.out _).trans (((cell_far (p:=⟨xM,_,none⟩) yj.out _).trans (hHeld.2.1)))),((cell_far (p:=⟨xM,_,none⟩) yu.out _).trans (((cell_far (p:=⟨xM,_,none⟩) yu.out _).trans (hHeld.2.2.1)))),((cell_far (p:=⟨xM,_,none⟩) yu.out _).trans (((cell_far (p:=⟨xM,_,none⟩) yu.out _).trans (hHeld.2.2.2))))⟩ (fun hHeld=>?_)
    clear hK K
    refine fV (i:=7) (N:=none) #[true,true,true,true,true,true,true,true] rfl rfl (eB HT_.out (by kernel_rfl)) (by decide) (fun K hK=>?_)
    have F3 : Aj.cell? ⟨xO,0,none⟩ = some (.int .u64 0):=(au xS.out 0).trans rfl
    have En:=aH xS.out 0
    have DK:=yt.out
    have DL:=yE.out
    have DN:=yJ.out
    have DR:=yD.out
    have DT:=yG.out
    have DU:=yI.out
    have F4 : Aj.cell? ⟨xO,1,none⟩ = some (.slice none 0 0):=(au xS.out 1).trans rfl
    have Eo:=aH xS.out 1
    have DV:=yt.out
    have DW:=yE.out
    have DX:=yJ.out
    have DY:=yD.out
    have DZ:=yG.out
    have D5:=yI.out
    refine tN (w1:=?_) (by rfl) rfl ?_ ?_
    rotate_left
    ·go_simp
     rfl
    refine hK.out _ _ ⟨((cell_far (p:=⟨xO,_,none⟩) yt.out _).trans (((cell_far (p:=⟨xO,_,none⟩) yt.out _).trans (hHeld.1)))),((cell_far (p:=⟨xO,_,none⟩) yt.out _).trans (((cell_far (p:=⟨xO,_,none⟩) yt.out _).trans (hHeld.2.1)))),((cell_far (p:=⟨xO,_,none⟩) yE.out _).trans (((cell_far (p:=⟨xO,_,none⟩) yE.out _).trans (hHeld.2.2.1)))),((cell_far (p:=⟨xO,_,none⟩) yE.out _).trans (((cell_far (p:=⟨xO,_,none⟩) yE.out _).trans (hHeld.2.2.2))))⟩ (fun hHeld=>?_)
    clear hK K
    refine jv (gX HT_.out (by kernel_rfl)) ?_
    have Ep:=yC.out
    have Er:=yj.out
    have Es:=yF.out
    have Et:=yu.out
    have Eu:=yJ.out
    have Ew:=yI.out
    have Bz : Aj.cell? ⟨xM,0,none⟩ = some (.int .u64 0):=(au xP.out 0).trans rfl
    have BA : Aj.cell? ⟨xM,1,none⟩ = some (.slice none 0 0):=(au xP.out 1).trans rfl
    have BF:=aH xP.out 0
    have BG:=aH xP.out 1
    go_upto_region 6 with (first|((with_reducible refine bK (f:=25) rfl ?_);refine dH (some 24) rfl rfl Tryd.func25 (by kernel_rfl) rfl #[.agg #[.int .u64 yN,.slice zw t226.length zl]] rfl (by (try simp only [List.map_toArray,List.map_cons,List.map_nil]);first|done|rfl|(simp only [List.length_drop,List.length_take];rfl)|(simp (disch:=first|omega|(simp at *;omega)) only [dh,bY,dY];rfl)) ?_;(with_reducible refine (aJ.calls zh yN _ _ t226 yZ _ ?yQ ?yR FT.out).mono ?_);(case yQ=>refine (Kd.fC (e:=103) (base:=w.heap.size) (ok:=fun k_=>some k_ ≠ (.slice zy yS.length zA : Value).ownBlock) (n:=t226.length) (c:=zl) ?_).2.2;exact (by (with_reducible repeat (first|apply Kd.bM|apply Kd.bN|apply Kd.bW));exact (Kd.eU (Kd.eU (Kd.fB (p:=⟨xO,1,none⟩) (Kd.fB (p:=⟨xO,0,none⟩) (Kd.fB (p:=⟨xM,1,none⟩) (Kd.fB (p:=⟨xM,0,none⟩) (Kd.gY (Kd.gY xX.out xP.out (by decide)) xS.out (by decide)) (fun _ hk=>hk.1.2) (.int .u64 yN)) (fun _ hk=>hk.1.2) (.slice zw t226.length zl)) (fun _ hk=>hk.2) (.int .u64 t229)) (fun _ hk=>hk.2) (.slice zy yS.length zA)) (fun _ h_=>h_.1)) (fun _ h_=>h_.1))));(case yR=>exact (Kd.fC xX.out).2.1);rintro e Ey ⟨rfl,hb⟩;refine ⟨_,rfl,?_⟩;have yK:=Aside0.mk (Kd.dz (by (with_reducible repeat (first|apply Kd.bM|apply Kd.bN|apply Kd.bW));exact (Kd.eU (Kd.eU (Kd.fB (p:=⟨xO,1,none⟩) (Kd.fB (p:=⟨xO,0,none⟩) (Kd.fB (p:=⟨xM,1,none⟩) (Kd.fB (p:=⟨xM,0,none⟩) (Kd.gY (Kd.gY xX.out xP.out (by decide)) xS.out (by decide)) (fun _ hk=>hk.1.2) (.int .u64 yN)) (fun _ hk=>hk.1.2) (.slice zw t226.length zl)) (fun _ hk=>hk.2) (.int .u64 t229)) (fun _ hk=>hk.2) (.slice zy yS.length zA)) (fun _ h_=>h_.1)) (fun _ h_=>h_.1))) hb);have yL:=Aside0.mk (Kd.dz (by (with_reducible repeat (first|apply Kd.bM|apply Kd.bN|apply Kd.bW));exact (Kd.eU (Kd.eU (Kd.fB (p:=⟨xO,1,none⟩) (Kd.fB (p:=⟨xO,0,none⟩) (Kd.fB (p:=⟨xM,1,none⟩) (Kd.fB (p:=⟨xM,0,none⟩) (Kd.gY (Kd.gY yH.out xP.out (by decide)) xS.out (by decide)) (fun _ hk=>hk.1.2) (.int .u64 yN)) (fun _ hk=>hk.1.2) (.slice zw t226.length zl)) (fun _ hk=>hk.2) (.int .u64 t229)) (fun _ hk=>hk.2) (.slice zy yS.length zA)) (fun _ h_=>h_.1)) (fun _ h_=>h_.1))) hb);have yM:=Aside0.mk (aK (g:=xK) (o:=.cells #[.int .u64 xR,.slice xZ xQ.length yc] 49 (0,0)) (by (with_reducible repeat (first|apply aC|apply aG|apply aA));refine aU ?_ yt.out _;(with_reducible repeat (first|apply aC|apply aG|apply aA));refine aU ?_ yt.out _;(with_reducible repeat (first|apply aC|apply aG|apply aA));refine aU ?_ yj.out _;(with_reducible repeat (first|apply aC|apply aG|apply aA));refine aU ?_ yj.out _;(with_reducible repeat (first|apply aC|apply aG|apply aA));exact xI.out) hb);have yO:=Aside0.mk (aK (g:=xL) (o:=.cells #[.int .u64 xV,.slice yw xU.length yx] 49 (0,0)) (by (with_reducible repeat (first|apply aC|apply aG|apply aA));refine aU ?_ yE.out _;(with_reducible repeat (first|apply aC|apply aG|apply aA));refine aU ?_ yE.out _;(with_reducible repeat (first|apply aC|apply aG|apply aA));refine aU ?_ yu.out _;(with_reducible repeat (first|apply aC|apply aG|apply aA));refine aU ?_ yu.out _;(with_reducible repeat (first|apply aC|apply aG|apply aA));exact xJ.out) hb);have yP:=Aside0.mk (aK (g:=xM) (o:=.cells #[.int .u64 yN,.slice zw t226.length zl] 53 (0,0)) (by (with_reducible repeat (first|apply aC|apply aG|apply aA));refine aU ?_ yJ.out _;(with_reducible repeat (first|apply aC|apply aG|apply aA));refine aU ?_ yJ.out _;(with_reducible repeat (first|apply aC|apply aG|apply aA));refine bE (cs:=#[.int .u64 yN,.slice none 0 0]) ?_ 1 _ rfl;(with_reducible repeat (first|apply aC|apply aG|apply aA));refine bE (cs:=#[.int .u64 0,.slice none 0 0]) ?_ 0 _ rfl;(with_reducible repeat (first|apply aC|apply aG|apply aA));exact xP.out) hb);have yT:=Aside0.mk (aK (g:=xO) (o:=.cells #[.int .u64 t229,.slice zy yS.length zA] 53 (0,0)) (by (with_reducible repeat (first|apply aC|apply aG|apply aA));refine bE (cs:=#[.int .u64 t229,.slice none 0 0]) ?_ 1 _ rfl;(with_reducible repeat (first|apply aC|apply aG|apply aA));refine bE (cs:=#[.int .u64 0,.slice none 0 0]) ?_ 0 _ rfl;(with_reducible repeat (first|apply aC|apply aG|apply aA));refine aU ?_ yI.out _;(with_reducible repeat (first|apply aC|apply aG|apply aA));refine aU ?_ yI.out _;(with_reducible repeat (first|apply aC|apply aG|apply aA));exact xS.out) hb);have yU:=Aside0.mk (aQ (by repeat (first|(with_reducible first|exact HB.out|apply ay|apply aj|apply av|refine ak ?_ xW.out|refine ak ?_ xY.out|refine ak ?_ yA.out|refine ak ?_ yB.out)|exact HB.out)) hb);clear xX;clear yH;clear xI;clear xJ;clear xP;clear xS;clear HB;have xX:=yK;have yH:=yL;have xI:=yM;have xJ:=yO;have xP:=yP;have xS:=yT;have HB:=yU;clear yK yL yM yO yP yT yU;(try clear hb);(try clear hb2);(try clear hk);(try clear hi);have Ez:=zm.out;have EA:=zn.out;have EB:=yt.out;have EC:=yD.out;have BH : Ey.cell? ⟨xK,0,none⟩ = some (.int .u64 xR):=(au xI.out 0).trans rfl;have BI : Ey.cell? ⟨xK,1,none⟩ = some (.slice xZ xQ.length yc):=(au xI.out 1).trans rfl;have BJ:=aH xI.out 0;have BK:=aH xI.out 1)|((with_reducible refine bK (f:=26) rfl ?_);refine dH (some 27) rfl rfl Tryd.func26 (by kernel_rfl) rfl #[.agg #[.int .u64 xR,.slice xZ xQ.length yc]] rfl (by (try simp only [List.map_toArray,List.map_cons,List.map_nil]);first|done|rfl|(simp only [List.length_drop,List.length_take];rfl)|(simp (disch:=first|omega|(simp at *;omega)) only [dh,bY,dY];rfl)) ?_;(with_reducible refine (bS.calls zh xR _ _ xQ t236 Am _ ?yQ ?yR FU.out).mono ?_);(case yQ=>repeat (first|exact (Kd.dW zC.out HB.out)|(with_reducible refine Kd.dw ?_ _)|(with_reducible refine Kd.dX ?_ _)|(with_reducible refine Kd.eu ?_)));(case yR=>exact zD.out);rintro e AY ⟨rfl,hb⟩;refine ⟨_,rfl,?_⟩;have yK:=Aside0.mk (Kd.dz (by (with_reducible repeat (first|apply Kd.bM|apply Kd.bN|apply Kd.bW));exact xX.out) hb);have yL:=Aside0.mk (Kd.dz (by (with_reducible repeat (first|apply Kd.bM|apply Kd.bN|apply Kd.bW));exact yH.out) hb);have yM:=Aside0.mk (aK (g:=xK) (o:=.cells #[.int .u64 xR,.slice xZ xQ.length yc] 49 (0,0)) (bk_ xI.out) hb);have yO:=Aside0.mk (aK (g:=xL) (o:=.cells #[.int .u64 xV,.slice yw xU.length yx] 49 (0,0)) (bk_ xJ.out) hb);have yP:=Aside0.mk (aK (g:=xM) (o:=.cells #[.int .u64 yN,.slice zw t226.length zl] 53 (0,0)) (bk_ xP.out) hb);have yT:=Aside0.mk (aK (g:=xO) (o:=.cells #[.int .u64 t229,.slice zy yS.length zA] 53 (0,0)) (bk_ xS.out) hb);have yU:=Aside0.mk (aQ (by repeat (first|(with_reducible first|exact HB.out|apply ay|apply aj|apply av|refine ak ?_ xW.out|refine ak ?_ xY.out|refine ak ?_ yA.out|refine ak ?_ yB.out)|exact HB.out)) hb);clear xX;clear yH;clear xI;clear xJ;clear xP;clear xS;clear HB;have xX:=yK;have yH:=yL;have xI:=yM;have xJ:=yO;have xP:=yP;have xS:=yT;have HB:=yU;clear yK yL yM yO yP yT yU;(try clear hb);(try clear hb2);(try clear hk);(try clear hi)))
    (try simp only [Act.put,List.setIfInBounds_toArray,List.set_cons_zero,List.set_cons_succ])
    go_cut [56] (fun v56 wc=>∃ (kq : Nat) (Al : Bool),v56 = .bool Al ∧ Aside0 (aI.j1 kq Al xR xQ xV xU yN t226 t229 yS = some r) ∧ Aside0 (kq ≤ zh) ∧ Aside0 (Kd.S fA 103 wc w.heap.size (fun k_=>some k_ ≠ ((.slice zy yS.length zA) : Value).ownBlock) (.slice zw t226.length zl) t226) ∧ Aside0 (Kd.S fA 103 wc w.heap.size (fun k_=>some k_ ≠ ((.slice zw t226.length zl) : Value).ownBlock) (.slice zy yS.length zA) yS) ∧ Aside0 (wc.heap[xK]? = some (.cells #[.int .u64 xR,(.slice xZ xQ.length yc)] 49 (0,0))) ∧ Aside0 (wc.heap[xL]? = some (.cells #[.int .u64 xV,(.slice yw xU.length yx)] 49 (0,0))) ∧ Aside0 (wc.heap[xM]? = some (.cells #[.int .u64 yN,(.slice zw t226.length zl)] 53 (0,0))) ∧ Aside0 (wc.heap[xO]? = some (.cells #[.int .u64 t229,(.slice zy yS.length zA)] 53 (0,0))) ∧ Aside0 (Below w.heap.size w wc))
    case first =>
     have H:=CS.out
     clear CS
     replace H:=Option.bind_eq_some_iff.mp H
     obtain ⟨zF,Dh,H⟩:=H
     replace H : (if zF = yZ then (if Am = yZ then (if yZ = 0 then ((aN.f zh yN t226).bind fun zI=>(if t236.toList = zI.toList then (aI.j1 zh false xR xQ xV xU yN t226 t229 yS) else (aI.j1 zh true xR xQ xV xU yN t226 t229 yS))) else (aI.j1 zh (t236.toList != ([] : List UInt8)) xR xQ xV xU yN t226 t229 yS)) else (aI.j1 zh true xR xQ xV xU yN t226 t229 yS)) else (aI.j1 zh true xR xQ xV xU yN t226 t229 yS)) = some r:=H
     have Di:=Aside0.mk Dh
     clear Dh
     by_cases CO : zF = yZ
     ·rw [if_pos CO] at H
      have c47b0 : (zF == yZ) = true:=beq_iff_eq.mpr CO
      have c47b1 : (zF != yZ) = false:=bne_eq_false_iff_eq.mpr CO
      clear CO
      (first|rw [c47b0]|(simp only [bD,bG];rw [c47b0])|skip)
      by_cases CP : Am = yZ
      ·rw [if_pos CP] at H
       have c48b0 : (Am == yZ) = true:=beq_iff_eq.mpr CP
       have c48b1 : (Am != yZ) = false:=bne_eq_false_iff_eq.mpr CP
       clear CP
       by_cases c49 : yZ = 0
       ·rw [if_pos c49] at H
        have c49b0 : (yZ == 0) = true:=beq_iff_eq.mpr c49
        have c49b1 : (yZ != 0) = false:=bne_eq_false_iff_eq.mpr c49
        clear c49
        replace H:=Option.bind_eq_some_iff.mp H
        obtain ⟨zI,Dj,H⟩:=H
        replace H : (if t236.toList = zI.toList then (aI.j1 zh false xR xQ xV xU yN t226 t229 yS) else (aI.j1 zh true xR xQ xV xU yN t226 t229 yS)) = some r:=H
        have ED:=Aside0.mk Dj
        clear Dj
        by_cases c51 : t236.toList = zI.toList
        ·rw [if_pos c51] at H
         have c51b0 : (t236.toList == zI.toList) = true:=beq_iff_eq.mpr c51
         have c51b1 : (t236.toList != zI.toList) = false:=bne_eq_false_iff_eq.mpr c51
         clear c51
         have H':=Aside0.mk H
         clear H
         have EF:=zm.out
         have EG:=zn.out
         have EH:=yj.out
         have EI:=yC.out
         have EJ:=yt.out
         have EK:=yD.out
         have BL : AY.cell? ⟨xK,0,none⟩ = some (.int .u64 xR):=(au xI.out 0).trans rfl
         have BM : AY.cell? ⟨xK,1,none⟩ = some (.slice xZ xQ.length yc):=(au xI.out 1).trans rfl
         have BN:=aH xI.out 0
         have BO:=aH xI.out 1
         go_wp2_with (first|((with_reducible refine bK (f:=27) rfl ?_);refine dH (some 31) rfl rfl Tryd.func27 (by kernel_rfl) rfl #[.agg #[.int .u64 xR,.slice xZ xQ.length yc]] rfl (by (try simp only [List.map_toArray,List.map_cons,List.map_nil]);first|done|rfl|(simp only [List.length_drop,List.length_take];rfl)|(simp (disch:=first|omega|(simp at *;omega)) only [dh,bY,dY];rfl)) ?_;(with_reducible refine (aM.calls zh xR _ _ xQ zF _ ?yQ ?yR Di.out).mono ?_);(case yQ=>repeat (first|exact (Kd.dW zC.out HB.out)|(with_reducible refine Kd.dw ?_ _)|(with_reducible refine Kd.dX ?_ _)|(with_reducible refine Kd.eu ?_)));(case yR=>exact zD.out);rintro e EL ⟨rfl,hb⟩;refine ⟨_,rfl,?_⟩;have yK:=Aside0.mk (Kd.dz (by (with_reducible repeat (first|apply Kd.bM|apply Kd.bN|apply Kd.bW));exact xX.out) hb);have yL:=Aside0.mk (Kd.dz (by (with_reducible repeat (first|apply Kd.bM|apply Kd.bN|apply Kd.bW));exact yH.out) hb);have yM:=Aside0.mk (aK (g:=xK) (o:=.cells #[.int .u64 xR,.slice xZ xQ.length yc] 49 (0,0)) (bk_ xI.out) hb);have yO:=Aside0.mk (aK (g:=xL) (o:=.cells #[.int .u64 xV,.slice yw xU.length yx] 49 (0,0)) (bk_ xJ.out) hb);have yP:=Aside0.mk (aK (g:=xM) (o:=.cells #[.int .u64 yN,.slice zw t226.length zl] 53 (0,0)) (bk_ xP.out) hb);have yT:=Aside0.mk (aK (g:=xO) (o:=.cells #[.int .u64 t229,.slice zy yS.length zA] 53 (0,0)) (bk_ xS.out) hb);have yU:=Aside0.mk (aQ (by repeat (first|(with_reducible first|exact HB.out|apply ay|apply aj|apply av|refine ak ?_ xW.out|refine ak ?_ xY.out|refine ak ?_ yA.out|refine ak ?_ yB.out)|exact HB.out)) hb);clear xX;clear yH;clear xI;clear xJ;clear xP;clear xS;clear HB;have xX:=yK;have yH:=yL;have xI:=yM;have xJ:=yO;have xP:=yP;have xS:=yT;have HB:=yU;clear yK yL yM yO yP yT yU;(try clear hb);(try clear hb2);(try clear hk);(try clear hi);have EM:=yF.out;have EN:=yu.out;have EO:=yJ.out;have EP:=yI.out;have BP : EL.cell? ⟨xM,0,none⟩ = some (.int .u64 yN):=(au xP.out 0).trans rfl;have BQ : EL.cell? ⟨xM,1,none⟩ = some (.slice zw t226.length zl):=(au xP.out 1).trans rfl;have BR:=aH xP.out 0;have BS:=aH xP.out 1)|(go_at_call 28;(with_reducible refine (aN.calls zh yN _ _ t226 zI _ ?yQ ?yR ED.out).mono ?_);(case yQ=>repeat (first|exact (Kd.fC xX.out).2.2|(with_reducible refine Kd.dw ?_ _)|(with_reducible refine Kd.dX ?_ _)|(with_reducible refine Kd.eu ?_)));(case yR=>exact (Kd.fC xX.out).2.1);rintro e Gd ⟨rfl,hb⟩;have yK:=Aside0.mk (Kd.dz (by (with_reducible repeat (first|apply Kd.bM|apply Kd.bN|apply Kd.bW));exact xX.out) hb);have yL:=Aside0.mk (Kd.dz (by (with_reducible repeat (first|apply Kd.bM|apply Kd.bN|apply Kd.bW));exact yH.out) hb);have yM:=Aside0.mk (aK (g:=xK) (o:=.cells #[.int .u64 xR,.slice xZ xQ.length yc] 49 (0,0)) (bk_ xI.out) hb);have yO:=Aside0.mk (aK (g:=xL) (o:=.cells #[.int .u64 xV,.slice yw xU.length yx] 49 (0,0)) (bk_ xJ.out) hb);have yP:=Aside0.mk (aK (g:=xM) (o:=.cells #[.int .u64 yN,.slice zw t226.length zl] 53 (0,0)) (bk_ xP.out) hb);have yT:=Aside0.mk (aK (g:=xO) (o:=.cells #[.int .u64 t229,.slice zy yS.length zA] 53 (0,0)) (bk_ xS.out) hb);have yU:=Aside0.mk (aQ (by repeat (first|(with_reducible first|exact HB.out|apply ay|apply aj|apply av|refine ak ?_ xW.out|refine ak ?_ xY.out|refine ak ?_ yA.out|refine ak ?_ yB.out)|exact HB.out)) hb);clear xX;clear yH;clear xI;clear xJ;clear xP;clear xS;clear HB;have xX:=yK;have yH:=yL;have xI:=yM;have xJ:=yO;have xP:=yP;have xS:=yT;have HB:=yU;clear yK yL yM yO yP yT yU;(try clear hb);(try clear hb2);(try clear hk);(try clear hi)))
         go_meet
         case rel=>exact ⟨_,(false),(by first|rfl|(simp;done)|(simp [*];done)|exact congrArg Value.bool (bZ _)|exact congrArg Value.bool (bZ _).symm),H',⟨by have:=HJ2.out;first|omega|exact Nat.le_refl _⟩,⟨by (with_reducible repeat (first|apply Kd.bM|apply Kd.bN|apply Kd.bW));exact xX.out⟩,⟨by (with_reducible repeat (first|apply Kd.bM|apply Kd.bN|apply Kd.bW));exact yH.out⟩,⟨by (with_reducible repeat (first|apply aC|apply aG|apply aA));exact xI.out⟩,⟨by (with_reducible repeat (first|apply aC|apply aG|apply aA));exact xJ.out⟩,⟨by (with_reducible repeat (first|apply aC|apply aG|apply aA));exact xP.out⟩,⟨by (with_reducible repeat (first|apply aC|apply aG|apply aA));exact xS.out⟩,⟨by repeat (first|(with_reducible first|exact HB.out|apply ay|apply aj|apply av|refine ak ?_ xW.out|refine ak ?_ xY.out|refine ak ?_ yA.out|refine ak ?_ yB.out)|exact HB.out)⟩⟩
        ·rw [if_neg c51] at H
         have c51b0 : (t236.toList == zI.toList) = false:=beq_eq_false_iff_ne.mpr c51
         have c51b1 : (t236.toList != zI.toList) = true:=bne_iff_ne.mpr c51
         have H':=Aside0.mk H
         clear H
         have ER:=zm.out
         have ES:=zn.out
         have ET:=yj.out
         have EU:=yC.out
         have EW:=yt.out
         have EX:=yD.out
         have BU : AY.cell? ⟨xK,0,none⟩ = some (.int .u64 xR):=(au xI.out 0).trans rfl
         have BZ : AY.cell? ⟨xK,1,none⟩ = some (.slice xZ xQ.length yc):=(au xI.out 1).trans rfl
         have Ca:=aH xI.out 0
         have Cb:=aH xI.out 1
         go_wp2_with (first|((with_reducible refine bK (f:=27) rfl ?_);refine dH (some 31) rfl rfl Tryd.func27 (by kernel_rfl) rfl #[.agg #[.int .u64 xR,.slice xZ xQ.length yc]] rfl (by (try simp only [List.map_toArray,List.map_cons,List.map_nil]);first|done|rfl|(simp only [List.length_drop,List.length_take];rfl)|(simp (disch:=first|omega|(simp at *;omega)) only [dh,bY,dY];rfl)) ?_;(with_reducible refine (aM.calls zh xR _ _ xQ zF _ ?yQ ?yR Di.out).mono ?_);(case yQ=>repeat (first|exact (Kd.dW zC.out HB.out)|(with_reducible refine Kd.dw ?_ _)|(with_reducible refine Kd.dX ?_ _)|(with_reducible refine Kd.eu ?_)));(case yR=>exact zD.out);rintro e EY ⟨rfl,hb⟩;refine ⟨_,rfl,?_⟩;have yK:=Aside0.mk (Kd.dz (by (with_reducible repeat (first|apply Kd.bM|apply Kd.bN|apply Kd.bW));exact xX.out) hb);have yL:=Aside0.mk (Kd.dz (by (with_reducible repeat (first|apply Kd.bM|apply Kd.bN|apply Kd.bW));exact yH.out) hb);have yM:=Aside0.mk (aK (g:=xK) (o:=.cells #[.int .u64 xR,.slice xZ xQ.length yc] 49 (0,0)) (bk_ xI.out) hb);have yO:=Aside0.mk (aK (g:=xL) (o:=.cells #[.int .u64 xV,.slice yw xU.length yx] 49 (0,0)) (bk_ xJ.out) hb);have yP:=Aside0.mk (aK (g:=xM) (o:=.cells #[.int .u64 yN,.slice zw t226.length zl] 53 (0,0)) (bk_ xP.out) hb);have yT:=Aside0.mk (aK (g:=xO) (o:=.cells #[.int .u64 t229,.slice zy yS.length zA] 53 (0,0)) (bk_ xS.out) hb);have yU:=Aside0.mk (aQ (by repeat (first|(with_reducible first|exact HB.out|apply ay|apply aj|apply av|refine ak ?_ xW.out|refine ak ?_ xY.out|refine ak ?_ yA.out|refine ak ?_ yB.out)|exact HB.out)) hb);clear xX;clear yH;clear xI;clear xJ;clear xP;clear xS;clear HB;have xX:=yK;have yH:=yL;have xI:=yM;have xJ:=yO;have xP:=yP;have xS:=yT;have HB:=yU;clear yK yL yM yO yP yT yU;(try clear hb);(try clear hb2);(try clear hk);(try clear hi);have EZ:=yF.out;have E5:=yu.out;have E8:=yJ.out;have E9:=yI.out;have Cc : EY.cell? ⟨xM,0,none⟩ = some (.int .u64 yN):=(au xP.out 0).trans rfl;have Ce : EY.cell? ⟨xM,1,none⟩ = some (.slice zw t226.length zl):=(au xP.out 1).trans rfl;have Cg:=aH xP.out 0;have Ch:=aH xP.out 1)|(go_at_call 28;(with_reducible refine (aN.calls zh yN _ _ t226 zI _ ?yQ ?yR ED.out).mono ?_);(case yQ=>repeat (first|exact (Kd.fC xX.out).2.2|(with_reducible refine Kd.dw ?_ _)|(with_reducible refine Kd.dX ?_ _)|(with_reducible refine Kd.eu ?_)));(case yR=>exact (Kd.fC xX.out).2.1);rintro e Gf ⟨rfl,hb⟩;have yK:=Aside0.mk (Kd.dz (by (with_reducible repeat (first|apply Kd.bM|apply Kd.bN|apply Kd.bW));exact xX.out) hb);have yL:=Aside0.mk (Kd.dz (by (with_reducible repeat (first|apply Kd.bM|apply Kd.bN|apply Kd.bW));exact yH.out) hb);have yM:=Aside0.mk (aK (g:=xK) (o:=.cells #[.int .u64 xR,.slice xZ xQ.length yc] 49 (0,0)) (bk_ xI.out) hb);have yO:=Aside0.mk (aK (g:=xL) (o:=.cells #[.int .u64 xV,.slice yw xU.length yx] 49 (0,0)) (bk_ xJ.out) hb);have yP:=Aside0.mk (aK (g:=xM) (o:=.cells #[.int .u64 yN,.slice zw t226.length zl] 53 (0,0)) (bk_ xP.out) hb);have yT:=Aside0.mk (aK (g:=xO) (o:=.cells #[.int .u64 t229,.slice zy yS.length zA] 53 (0,0)) (bk_ xS.out) hb);have yU:=Aside0.mk (aQ (by repeat (first|(with_reducible first|exact HB.out|apply ay|apply aj|apply av|refine ak ?_ xW.out|refine ak ?_ xY.out|refine ak ?_ yA.out|refine ak ?_ yB.out)|exact HB.out)) hb);clear xX;clear yH;clear xI;clear xJ;clear xP;clear xS;clear HB;have xX:=yK;have yH:=yL;have xI:=yM;have xJ:=yO;have xP:=yP;have xS:=yT;have HB:=yU;clear yK yL yM yO yP yT yU;(try clear hb);(try clear hb2);(try clear hk);(try clear hi)))
         go_meet
         case rel=>exact ⟨_,(true),(by first|rfl|(simp;done)|(simp [*];done)|exact congrArg Value.bool (bZ _)|exact congrArg Value.bool (bZ _).symm),H',⟨by have:=HJ2.out;first|omega|exact Nat.le_refl _⟩,⟨by (with_reducible repeat (first|apply Kd.bM|apply Kd.bN|apply Kd.bW));exact xX.out⟩,⟨by (with_reducible repeat (first|apply Kd.bM|apply Kd.bN|apply Kd.bW));exact yH.out⟩,⟨by (with_reducible repeat (first|apply aC|apply aG|apply aA));exact xI.out⟩,⟨by (with_reducible repeat (first|apply aC|apply aG|apply aA));exact xJ.out⟩,⟨by (with_reducible repeat (first|apply aC|apply aG|apply aA));exact xP.out⟩,⟨by (with_reducible repeat (first|apply aC|apply aG|apply aA));exact xS.out⟩,⟨by repeat (first|(with_reducible first|exact HB.out|apply ay|apply aj|apply av|refine ak ?_ xW.out|refine ak ?_ xY.out|refine ak ?_ yA.out|refine ak ?_ yB.out)|exact HB.out)⟩⟩
       ·rw [if_neg c49] at H
        have c49b0 : (yZ == 0) = false:=beq_eq_false_iff_ne.mpr c49
        have c49b1 : (yZ != 0) = true:=bne_iff_ne.mpr c49
        have H':=Aside0.mk H
        clear H
        have Fa:=zm.out
        have Fb:=zn.out
        have Fe:=yj.out
        have Fg:=yC.out
        have Fh:=yt.out
        have Fj:=yD.out
        have Ci : AY.cell? ⟨xK,0,none⟩ = some (.int .u64 xR):=(au xI.out 0).trans rfl
        have Cj : AY.cell? ⟨xK,1,none⟩ = some (.slice xZ xQ.length yc):=(au xI.out 1).trans rfl
        have Ck:=aH xI.out 0
        have Cm:=aH xI.out 1
        go_wp2_with (first|((with_reducible refine bK (f:=27) rfl ?_);refine dH (some 31) rfl rfl Tryd.func27 (by kernel_rfl) rfl #[.agg #[.int .u64 xR,.slice xZ xQ.length yc]] rfl (by (try simp only [List.map_toArray,List.map_cons,List.map_nil]);first|done|rfl|(simp only [List.length_drop,List.length_take];rfl)|(simp (disch:=first|omega|(simp at *;omega)) only [dh,bY,dY];rfl)) ?_;(with_reducible refine (aM.calls zh xR _ _ xQ zF _ ?yQ ?yR Di.out).mono ?_);(case yQ=>repeat (first|exact (Kd.dW zC.out HB.out)|(with_reducible refine Kd.dw ?_ _)|(with_reducible refine Kd.dX ?_ _)|(with_reducible refine Kd.eu ?_)));(case yR=>exact zD.out);rintro e Gg ⟨rfl,hb⟩;refine ⟨_,rfl,?_⟩;have yK:=Aside0.mk (Kd.dz (by (with_reducible repeat (first|apply Kd.bM|apply Kd.bN|apply Kd.bW));exact xX.out) hb);have yL:=Aside0.mk (Kd.dz (by (with_reducible repeat (first|apply Kd.bM|apply Kd.bN|apply Kd.bW));exact yH.out) hb);have yM:=Aside0.mk (aK (g:=xK) (o:=.cells #[.int .u64 xR,.slice xZ xQ.length yc] 49 (0,0)) (bk_ xI.out) hb);have yO:=Aside0.mk (aK (g:=xL) (o:=.cells #[.int .u64 xV,.slice yw xU.length yx] 49 (0,0)) (bk_ xJ.out) hb);have yP:=Aside0.mk (aK (g:=xM) (o:=.cells #[.int .u64 yN,.slice zw t226.length zl] 53 (0,0)) (bk_ xP.out) hb);have yT:=Aside0.mk (aK (g:=xO) (o:=.cells #[.int .u64 t229,.slice zy yS.length zA] 53 (0,0)) (bk_ xS.out) hb);have yU:=Aside0.mk (aQ (by repeat (first|(with_reducible first|exact HB.out|apply ay|apply aj|apply av|refine ak ?_ xW.out|refine ak ?_ xY.out|refine ak ?_ yA.out|refine ak ?_ yB.out)|exact HB.out)) hb);clear xX;clear yH;clear xI;clear xJ;clear xP;clear xS;clear HB;have xX:=yK;have yH:=yL;have xI:=yM;have xJ:=yO;have xP:=yP;have xS:=yT;have HB:=yU;clear yK yL yM yO yP yT yU;(try clear hb);(try clear hb2);(try clear hk);(try clear hi)))
        go_meet
        case rel=>exact ⟨_,((t236.toList != ([] : List UInt8))),(by first|rfl|(simp;done)|(simp [*];done)|exact congrArg Value.bool (bZ _)|exact congrArg Value.bool (bZ _).symm),H',⟨by have:=HJ2.out;first|omega|exact Nat.le_refl _⟩,⟨by (with_reducible repeat (first|apply Kd.bM|apply Kd.bN|apply Kd.bW));exact xX.out⟩,⟨by (with_reducible repeat (first|apply Kd.bM|apply Kd.bN|apply Kd.bW));exact yH.out⟩,⟨by (with_reducible repeat (first|apply aC|apply aG|apply aA));exact xI.out⟩,⟨by (with_reducible repeat (first|apply aC|apply aG|apply aA));exact xJ.out⟩,⟨by (with_reducible repeat (first|apply aC|apply aG|apply aA));exact xP.out⟩,⟨by (with_reducible repeat (first|apply aC|apply aG|apply aA));exact xS.out⟩,⟨by repeat (first|(with_reducible first|exact HB.out|apply ay|apply aj|apply av|refine ak ?_ xW.out|refine ak ?_ xY.out|refine ak ?_ yA.out|refine ak ?_ yB.out)|exact HB.out)⟩⟩
      ·rw [if_neg CP] at H
       have c48b0 : (Am == yZ) = false:=beq_eq_false_iff_ne.mpr CP
       have c48b1 : (Am != yZ) = true:=bne_iff_ne.mpr CP
       have H':=Aside0.mk H
       clear H
       have Fp:=zm.out
       have Fq:=zn.out
       have Fu:=yj.out
       have Fv:=yC.out
       have Fw:=yt.out
       have Fx:=yD.out
       have Cn : AY.cell? ⟨xK,0,none⟩ = some (.int .u64 xR):=(au xI.out 0).trans rfl
       have Co : AY.cell? ⟨xK,1,none⟩ = some (.slice xZ xQ.length yc):=(au xI.out 1).trans rfl
       have Cq:=aH xI.out 0
       have Cr:=aH xI.out 1
       go_wp2_with (first|((with_reducible refine bK (f:=27) rfl ?_);refine dH (some 31) rfl rfl Tryd.func27 (by kernel_rfl) rfl #[.agg #[.int .u64 xR,.slice xZ xQ.length yc]] rfl (by (try simp only [List.map_toArray,List.map_cons,List.map_nil]);first|done|rfl|(simp only [List.length_drop,List.length_take];rfl)|(simp (disch:=first|omega|(simp at *;omega)) only [dh,bY,dY];rfl)) ?_;(with_reducible refine (aM.calls zh xR _ _ xQ zF _ ?yQ ?yR Di.out).mono ?_);(case yQ=>repeat (first|exact (Kd.dW zC.out HB.out)|(with_reducible refine Kd.dw ?_ _)|(with_reducible refine Kd.dX ?_ _)|(with_reducible refine Kd.eu ?_)));(case yR=>exact zD.out);rintro e Gh ⟨rfl,hb⟩;refine ⟨_,rfl,?_⟩;have yK:=Aside0.mk (Kd.dz (by (with_reducible repeat (first|apply Kd.bM|apply Kd.bN|apply Kd.bW));exact xX.out) hb);have yL:=Aside0.mk (Kd.dz (by (with_reducible repeat (first|apply Kd.bM|apply Kd.bN|apply Kd.bW));exact yH.out) hb);have yM:=Aside0.mk (aK (g:=xK) (o:=.cells #[.int .u64 xR,.slice xZ xQ.length yc] 49 (0,0)) (bk_ xI.out) hb);have yO:=Aside0.mk (aK (g:=xL) (o:=.cells #[.int .u64 xV,.slice yw xU.length yx] 49 (0,0)) (bk_ xJ.out) hb);have yP:=Aside0.mk (aK (g:=xM) (o:=.cells #[.int .u64 yN,.slice zw t226.length zl] 53 (0,0)) (bk_ xP.out) hb);have yT:=Aside0.mk (aK (g:=xO) (o:=.cells #[.int .u64 t229,.slice zy yS.length zA] 53 (0,0)) (bk_ xS.out) hb);have yU:=Aside0.mk (aQ (by repeat (first|(with_reducible first|exact HB.out|apply ay|apply aj|apply av|refine ak ?_ xW.out|refine ak ?_ xY.out|refine ak ?_ yA.out|refine ak ?_ yB.out)|exact HB.out)) hb);clear xX;clear yH;clear xI;clear xJ;clear xP;clear xS;clear HB;have xX:=yK;have yH:=yL;have xI:=yM;have xJ:=yO;have xP:=yP;have xS:=yT;have HB:=yU;clear yK yL yM yO yP yT yU;(try clear hb);(try clear hb2);(try clear hk);(try clear hi)))
       go_meet
       case rel=>exact ⟨_,(true),(by first|rfl|(simp;done)|(simp [*];done)|exact congrArg Value.bool (bZ _)|exact congrArg Value.bool (bZ _).symm),H',⟨by have:=HJ2.out;first|omega|exact Nat.le_refl _⟩,⟨by (with_reducible repeat (first|apply Kd.bM|apply Kd.bN|apply Kd.bW));exact xX.out⟩,⟨by (with_reducible repeat (first|apply Kd.bM|apply Kd.bN|apply Kd.bW));exact yH.out⟩,⟨by (with_reducible repeat (first|apply aC|apply aG|apply aA));exact xI.out⟩,⟨by (with_reducible repeat (first|apply aC|apply aG|apply aA));exact xJ.out⟩,⟨by (with_reducible repeat (first|apply aC|apply aG|apply aA));exact xP.out⟩,⟨by (with_reducible repeat (first|apply aC|apply aG|apply aA));exact xS.out⟩,⟨by repeat (first|(with_reducible first|exact HB.out|apply ay|apply aj|apply av|refine ak ?_ xW.out|refine ak ?_ xY.out|refine ak ?_ yA.out|refine ak ?_ yB.out)|exact HB.out)⟩⟩
     ·rw [if_neg CO] at H
      have c47b0 : (zF == yZ) = false:=beq_eq_false_iff_ne.mpr CO
      have c47b1 : (zF != yZ) = true:=bne_iff_ne.mpr CO
      (first|rw [c47b0]|(simp only [bD,bG];rw [c47b0])|skip)
      have H':=Aside0.mk H
      clear H
      have Fy:=zm.out
      have Fz:=zn.out
      have FB:=yj.out
      have FC:=yC.out
      have FD:=yt.out
      have FE:=yD.out
      have Ct : AY.cell? ⟨xK,0,none⟩ = some (.int .u64 xR):=(au xI.out 0).trans rfl
      have Cu : AY.cell? ⟨xK,1,none⟩ = some (.slice xZ xQ.length yc):=(au xI.out 1).trans rfl
      have Cv:=aH xI.out 0
      have Cw:=aH xI.out 1
      go_wp2_with (first|((with_reducible refine bK (f:=27) rfl ?_);refine dH (some 31) rfl rfl Tryd.func27 (by kernel_rfl) rfl #[.agg #[.int .u64 xR,.slice xZ xQ.length yc]] rfl (by (try simp only [List.map_toArray,List.map_cons,List.map_nil]);first|done|rfl|(simp only [List.length_drop,List.length_take];rfl)|(simp (disch:=first|omega|(simp at *;omega)) only [dh,bY,dY];rfl)) ?_;(with_reducible refine (aM.calls zh xR _ _ xQ zF _ ?yQ ?yR Di.out).mono ?_);(case yQ=>repeat (first|exact (Kd.dW zC.out HB.out)|(with_reducible refine Kd.dw ?_ _)|(with_reducible refine Kd.dX ?_ _)|(with_reducible refine Kd.eu ?_)));(case yR=>exact zD.out);rintro e Gi ⟨rfl,hb⟩;refine ⟨_,rfl,?_⟩;have yK:=Aside0.mk (Kd.dz (by (with_reducible repeat (first|apply Kd.bM|apply Kd.bN|apply Kd.bW));exact xX.out) hb);have yL:=Aside0.mk (Kd.dz (by (with_reducible repeat (first|apply Kd.bM|apply Kd.bN|apply Kd.bW));exact yH.out) hb);have yM:=Aside0.mk (aK (g:=xK) (o:=.cells #[.int .u64 xR,.slice xZ xQ.length yc] 49 (0,0)) (bk_ xI.out) hb);have yO:=Aside0.mk (aK (g:=xL) (o:=.cells #[.int .u64 xV,.slice yw xU.length yx] 49 (0,0)) (bk_ xJ.out) hb);have yP:=Aside0.mk (aK (g:=xM) (o:=.cells #[.int .u64 yN,.slice zw t226.length zl] 53 (0,0)) (bk_ xP.out) hb);have yT:=Aside0.mk (aK (g:=xO) (o:=.cells #[.int .u64 t229,.slice zy yS.length zA] 53 (0,0)) (bk_ xS.out) hb);have yU:=Aside0.mk (aQ (by repeat (first|(with_reducible first|exact HB.out|apply ay|apply aj|apply av|refine ak ?_ xW.out|refine ak ?_ xY.out|refine ak ?_ yA.out|refine ak ?_ yB.out)|exact HB.out)) hb);clear xX;clear yH;clear xI;clear xJ;clear xP;clear xS;clear HB;have xX:=yK;have yH:=yL;have xI:=yM;have xJ:=yO;have xP:=yP;have xS:=yT;have HB:=yU;clear yK yL yM yO yP yT yU;(try clear hb);(try clear hb2);(try clear hk);(try clear hi)))
      go_meet
      case rel=>exact ⟨_,(true),(by first|rfl|(simp;done)|(simp [*];done)|exact congrArg Value.bool (bZ _)|exact congrArg Value.bool (bZ _).symm),H',⟨by have:=HJ2.out;first|omega|exact Nat.le_refl _⟩,⟨by (with_reducible repeat (first|apply Kd.bM|apply Kd.bN|apply Kd.bW));exact xX.out⟩,⟨by (with_reducible repeat (first|apply Kd.bM|apply Kd.bN|apply Kd.bW));exact yH.out⟩,⟨by (with_reducible repeat (first|apply aC|apply aG|apply aA));exact xI.out⟩,⟨by (with_reducible repeat (first|apply aC|apply aG|apply aA));exact xJ.out⟩,⟨by (with_reducible repeat (first|apply aC|apply aG|apply aA));exact xP.out⟩,⟨by (with_reducible repeat (first|apply aC|apply aG|apply aA));exact xS.out⟩,⟨by repeat (first|(with_reducible first|exact HB.out|apply ay|apply aj|apply av|refine ak ?_ xW.out|refine ak ?_ xY.out|refine ak ?_ yA.out|refine ak ?_ yB.out)|exact HB.out)⟩⟩
    case rest =>
     clear CS
     try clear c1
     try clear c2
     try clear p2
     try clear c3
     try clear c4
     try clear c5
     try clear c6
     try clear c7
     try clear c8
     try clear c24
     try clear Gj
     try clear Gl
     try clear Gm
     try clear c37
     try clear Gn
     try clear Gp
     try clear Gq
     try clear Gr
     try clear CO
     try clear c47b0
     try clear c47b1
     try clear CP
     try clear c48b0
     try clear c48b1
     try clear c49
     try clear c49b0
     try clear c49b1
     try clear c51
     try clear c51b0
     try clear c51b1
     try clear Gs
     try clear c53
     try clear Gt
     try clear Gu
     try clear Gv
     try clear Gw
     try clear Gx
     try clear Gy
     try clear Gz
     try clear GA
     try clear c70
     try clear GD
     try clear c72
     try clear c75
     try clear c76
     try clear GH
     try clear c80
     try clear GI
     try clear GJ
     try clear Bz
     try clear BA
     try clear BH
     try clear BI
     try clear BL
     try clear BM
     try clear BP
     try clear BQ
     try clear BU
     try clear BZ
     try clear Cc
     try clear Ce
     try clear Ci
     try clear Cj
     try clear Cn
     try clear Co
     try clear Ct
     try clear Cu
     try clear BF
     try clear BG
     try clear BJ
     try clear BK
     try clear BN
     try clear BO
     try clear BR
     try clear BS
     try clear Ca
     try clear Cb
     try clear Cg
     try clear Ch
     try clear Ck
     try clear Cm
     try clear Cq
     try clear Cr
     try clear Cv
     try clear Cw
     obtain ⟨kq,Al,rfl,HA,F5,yg,yh,xI,xJ,xP,xS,HB⟩:=hcut
     cases kq with
     | zero=>exact absurd HA.out (by simp [aI.j1])
     | succ Cx =>
      have H:=HA.out
      clear HA
      simp only [aI.j1] at H
      by_cases c85 : Al = true
      ·subst c85
       have H1 : (some false) = some r:=by rw [if_pos rfl] at H;exact H
       clear H
       have H:=H1
       clear H1
       obtain rfl:=Option.some.inj H
       go_wp2
       go_ret
       exact ⟨by first|rfl|(simp [aZ,bf] <;> rfl)|(simp [*,aZ,bf] <;> rfl),by repeat (first|(with_reducible first|exact HB.out|apply ay|apply aj|apply av|refine ak ?_ xW.out|refine ak ?_ xY.out|refine ak ?_ yA.out|refine ak ?_ yB.out)|exact HB.out)⟩
      ·replace c85:=Bool.eq_false_iff.mpr c85
       subst c85
       have H1 : ((cK.f Cx).bind fun AQ=>(if AQ = true then ((cO.f xR xQ xV xU).bind fun zM=>((dQ.f yN t226 t229 yS).bind fun zL=>(if (zM == zL) = true then ((cO.f xR xQ xR xQ).bind fun zU=>(some zU)) else (some false)))) else (some false))) = some r:=by rw [if_neg (show ¬ (false = true) by decide)] at H;exact H
       clear H
       have H:=H1
       clear H1
       replace H:=Option.bind_eq_some_iff.mp H
       obtain ⟨AQ,Dk,H⟩:=H
       replace H : (if AQ = true then ((cO.f xR xQ xV xU).bind fun zM=>((dQ.f yN t226 t229 yS).bind fun zL=>(if (zM == zL) = true then ((cO.f xR xQ xR xQ).bind fun zU=>(some zU)) else (some false)))) else (some false)) = some r:=H
       have Ea:=Aside0.mk Dk
       clear Dk
       by_cases c87 : AQ = true
       ·subst c87
        have H1 : ((cO.f xR xQ xV xU).bind fun zM=>((dQ.f yN t226 t229 yS).bind fun zL=>(if (zM == zL) = true then ((cO.f xR xQ xR xQ).bind fun zU=>(some zU)) else (some false)))) = some r:=by rw [if_pos rfl] at H;exact H
        clear H
        have H:=H1
        clear H1
        replace H:=Option.bind_eq_some_iff.mp H
        obtain ⟨zM,Dl,H⟩:=H
        replace H : ((dQ.f yN t226 t229 yS).bind fun zL=>(if (zM == zL) = true then ((cO.f xR xQ xR xQ).bind fun zU=>(some zU)) else (some false))) = some r:=H
        have FH:=Aside0.mk Dl
        clear Dl
        replace H:=Option.bind_eq_some_iff.mp H
        obtain ⟨zL,Dm,H⟩:=H
        replace H : (if (zM == zL) = true then ((cO.f xR xQ xR xQ).bind fun zU=>(some zU)) else (some false)) = some r:=H
        have FI:=Aside0.mk Dm
        clear Dm
        by_cases AX : (zM == zL) = true
        ·rw [if_pos AX] at H
         have c90b0 : (zM == zL) = true:=AX
         (try (have c90b1 : decide (zM = zL) = true:=by simpa using AX))
         (try (have c90b2 : (zM == zL) = true:=by simpa using AX))
         clear AX
         replace H:=Option.bind_eq_some_iff.mp H
         obtain ⟨zU,Dn,H⟩:=H
         replace H : (some zU) = some r:=H
         have F6:=Aside0.mk Dn
         clear Dn
         obtain rfl:=Option.some.inj H
         try go_wp2
         have yK:=Aside0.mk (Kd.bW yg.out)
         have yL:=Aside0.mk (Kd.bW yh.out)
         have yM:=Aside0.mk (aG xI.out)
         have yO:=Aside0.mk (aG xJ.out)
         have yP:=Aside0.mk (aG xP.out)
         have yT:=Aside0.mk (aG xS.out)
         have yU:=Aside0.mk (av HB.out)
         clear yg
         clear yh
         clear xI
         clear xJ
         clear xP
         clear xS
         clear HB
         have yg:=yK
         have yh:=yL
         have xI:=yM
         have xJ:=yO
         have xP:=yP
         have xS:=yT
         have HB:=yU
         clear yK yL yM yO yP yT yU
         refine iM (n:=16) (S:=fun w'=>w'.cell? ⟨xK,0,none⟩ = some (.int .u64 xR) ∧ w'.cell? ⟨xK,1,none⟩ = some (.slice xZ xQ.length yc) ∧ w'.cell? ⟨xL,0,none⟩ = some (.int .u64 xV) ∧ w'.cell? ⟨xL,1,none⟩ = some (.slice yw xU.length yx) ∧ w'.cell? ⟨xM,0,none⟩ = some (.int .u64 yN) ∧ w'.cell? ⟨xM,1,none⟩ = some (.slice zw t226.length zl) ∧ w'.cell? ⟨xO,0,none⟩ = some (.int .u64 t229) ∧ w'.cell? ⟨xO,1,none⟩ = some (.slice zy yS.length zA)) (ds:=[]) #[false,false,false,false,false,false,false,false,false,false,false,false,false,false,false,false] (by kernel_rfl) rfl rfl ⟨(au xI.out 0).trans rfl,(au xI.out 1).trans rfl,(au xJ.out 0).trans rfl,(au xJ.out 1).trans rfl,(au xP.out 0).trans rfl,(au xP.out 1).trans rfl,(au xS.out 0).trans rfl,(au xS.out 1).trans rfl⟩ (fun hHeld=>?_);refine fP aI.uS aI.rO (fun HT_ HW_=>?_)
         generalize wc.drew = GK at yg yh xI xJ xP xS HB hHeld ⊢
         refine fV (i:=0) (N:=some 57) #[true,false,false,false,false,false,false,false,false,false,false,false,false,false,false,false] rfl rfl (eB HT_.out (by kernel_rfl)) (by decide) (fun K hK=>?_)
         refine eD Tryd.func23 (by kernel_rfl) rfl #[] (by rfl) rfl rfl (by (try simp only [List.map_toArray,List.map_cons,List.map_nil]);first|done|rfl|(simp only [List.length_drop,List.length_take];rfl)) ?_
         with_reducible refine (cK.calls Cx  true _ Ea.out).mono ?_
         rintro e GL ⟨rfl,hb⟩
         refine ⟨_,rfl,?_⟩
         have yK:=Aside0.mk (Kd.dz (by (with_reducible repeat (first|apply Kd.bM|apply Kd.bN|apply Kd.bW));exact yg.out) hb)
         have yL:=Aside0.mk (Kd.dz (by (with_reducible repeat (first|apply Kd.bM|apply Kd.bN|apply Kd.bW));exact yh.out) hb)
         have yM:=Aside0.mk (aK (g:=xK) (o:=.cells #[.int .u64 xR,.slice xZ xQ.length yc] 49 (0,0)) (bk_ xI.out) hb)
         have yO:=Aside0.mk (aK (g:=xL) (o:=.cells #[.int .u64 xV,.slice yw xU.length yx] 49 (0,0)) (bk_ xJ.out) hb)
         have yP:=Aside0.mk (aK (g:=xM) (o:=.cells #[.int .u64 yN,.slice zw t226.length zl] 53 (0,0)) (bk_ xP.out) hb)
         have yT:=Aside0.mk (aK (g:=xO) (o:=.cells #[.int .u64 t229,.slice zy yS.length zA] 53 (0,0)) (bk_ xS.out) hb)
         have yU:=Aside0.mk (aQ (by repeat (first|(with_reducible first|exact HB.out|apply ay|apply aj|apply av|refine ak ?_ xW.out|refine ak ?_ xY.out|refine ak ?_ yA.out|refine ak ?_ yB.out)|exact HB.out)) hb)
         clear yg
         clear yh
         clear xI
         clear xJ
         clear xP
         clear xS
         clear HB
         have yg:=yK
         have yh:=yL
         have xI:=yM
         have xJ:=yO
         have xP:=yP
         have xS:=yT
         have HB:=yU
         clear yK yL yM yO yP yT yU
         (try clear hb)
         (try clear hb2)
         (try clear hk)
         (try clear hi)
         refine hK.out _ _ ⟨(au xI.out 0).trans rfl,(au xI.out 1).trans rfl,(au xJ.out 0).trans rfl,(au xJ.out 1).trans rfl,(au xP.out 0).trans rfl,(au xP.out 1).trans rfl,(au xS.out 0).trans rfl,(au xS.out 1).trans rfl⟩ (fun hHeld=>?_)
         clear hK K
         refine bV (a':=?_) ?_ ?_
         rotate_left
         ·show Act.put _ (some 57) _ = _
          simp only [Act.put,List.setIfInBounds_toArray,List.set_cons_zero,List.set_cons_succ,bD,bG]
          rfl
         refine cZ (i:=1) (N:=some 58) (v:=?_) (a':=?_) #[true,true,false,false,false,false,false,false,false,false,false,false,false,false,false,false] rfl rfl (cB HT_.out (by kernel_rfl)) (fun _ _ _ h=>h) (Or.inl ⟨by rfl,?_⟩) ?_ ?_
         rotate_left
         ·intro w'
          go_simp
          with_reducible rfl
         rotate_left
         ·simp only [Act.put,List.setIfInBounds_toArray,List.set_cons_zero,List.set_cons_succ,bD,bG]
          rfl
         refine eX (i:=2) (N:=some 59) (v:=?_) (a':=?_) #[true,true,true,false,false,false,false,false,false,false,false,false,false,false,false,false] rfl rfl (dR HT_.out HW_.out (by kernel_rfl)) (fun _ _ _ h=>h) (Or.inl ⟨by rfl,?_⟩) hHeld ?_ ?_
         rotate_left
         ·rintro w' ⟨s0,s1,s2,s3,s4,s5,s6,s7⟩
          go_simp
          with_reducible rfl
         rotate_left
         ·simp only [Act.put,List.setIfInBounds_toArray,List.set_cons_zero,List.set_cons_succ,bD,bG]
          rfl
         refine eX (i:=3) (N:=some 60) (v:=?_) (a':=?_) #[true,true,true,true,false,false,false,false,false,false,false,false,false,false,false,false] rfl rfl (dR HT_.out HW_.out (by kernel_rfl)) (fun _ _ _ h=>h) (Or.inl ⟨by rfl,?_⟩) hHeld ?_ ?_
         rotate_left
         ·rintro w' ⟨s0,s1,s2,s3,s4,s5,s6,s7⟩
          go_simp
          with_reducible rfl
         rotate_left
         ·simp only [Act.put,List.setIfInBounds_toArray,List.set_cons_zero,List.set_cons_succ,bD,bG]
          rfl
         refine eX (i:=5) (N:=some 62) (v:=?_) (a':=?_) #[true,true,true,true,false,true,false,false,false,false,false,false,false,false,false,false] rfl rfl (dR HT_.out HW_.out (by kernel_rfl)) (fun _ _ _ h=>h) (Or.inl ⟨by rfl,?_⟩) hHeld ?_ ?_
         rotate_left
         ·rintro w' ⟨s0,s1,s2,s3,s4,s5,s6,s7⟩
          go_simp
          with_reducible rfl
         rotate_left
         ·simp only [Act.put,List.setIfInBounds_toArray,List.set_cons_zero,List.set_cons_succ,bD,bG]
          rfl
         refine eX (i:=6) (N:=some 63) (v:=?_) (a':=?_) #[true,true,true,true,false,true,true,false,false,false,false,false,false,false,false,false] rfl rfl (dR HT_.out HW_.out (by kernel_rfl)) (fun _ _ _ h=>h) (Or.inl ⟨by rfl,?_⟩) hHeld ?_ ?_
         rotate_left
         ·rintro w' ⟨s0,s1,s2,s3,s4,s5,s6,s7⟩
          go_simp
          with_reducible rfl
         rotate_left
         ·simp only [Act.put,List.setIfInBounds_toArray,List.set_cons_zero,List.set_cons_succ,bD,bG]
          rfl
         refine fV (i:=4) (N:=some 61) #[true,true,true,true,true,true,true,false,false,false,false,false,false,false,false,false] rfl rfl (eB HT_.out (by kernel_rfl)) (by decide) (fun K hK=>?_)
         refine eD Tryd.func29 (by kernel_rfl) rfl #[.agg #[.int .u64 xR,.slice xZ xQ.length yc],.agg #[.int .u64 xV,.slice yw xU.length yx]] (by rfl) rfl rfl (by (try simp only [List.map_toArray,List.map_cons,List.map_nil]);first|done|rfl|(simp only [List.length_drop,List.length_take];rfl)) ?_
         with_reducible refine (cO.calls xR _ _ xQ xV _ _ xU zM _ ?yQ ?yR ?zY ?zZ FH.out).mono ?_
         (case yQ=>repeat (first|exact (Kd.dW zC.out HB.out)|(with_reducible refine Kd.dw ?_ _)|(with_reducible refine Kd.dX ?_ _)|(with_reducible refine Kd.eu ?_)))
         (case yR=>exact zD.out)
         (case zY=>repeat (first|exact (Kd.dW Ah.out HB.out)|(with_reducible refine Kd.dw ?_ _)|(with_reducible refine Kd.dX ?_ _)|(with_reducible refine Kd.eu ?_)))
         (case zZ=>exact Ai.out)
         rintro e GN ⟨rfl,hb⟩
         refine ⟨_,rfl,?_⟩
         have yK:=Aside0.mk (Kd.dz (by (with_reducible repeat (first|apply Kd.bM|apply Kd.bN|apply Kd.bW));exact yg.out) hb)
         have yL:=Aside0.mk (Kd.dz (by (with_reducible repeat (first|apply Kd.bM|apply Kd.bN|apply Kd.bW));exact yh.out) hb)
         have yM:=Aside0.mk (aK (g:=xK) (o:=.cells #[.int .u64 xR,.slice xZ xQ.length yc] 49 (0,0)) (bk_ xI.out) hb)
         have yO:=Aside0.mk (aK (g:=xL) (o:=.cells #[.int .u64 xV,.slice yw xU.length yx] 49 (0,0)) (bk_ xJ.out) hb)
         have yP:=Aside0.mk (aK (g:=xM) (o:=.cells #[.int .u64 yN,.slice zw t226.length zl] 53 (0,0)) (bk_ xP.out) hb)
         have yT:=Aside0.mk (aK (g:=xO) (o:=.cells #[.int .u64 t229,.slice zy yS.length zA] 53 (0,0)) (bk_ xS.out) hb)
         have yU:=Aside0.mk (aQ (by repeat (first|(with_reducible first|exact HB.out|apply ay|apply aj|apply av|refine ak ?_ xW.out|refine ak ?_ xY.out|refine ak ?_ yA.out|refine ak ?_ yB.out)|exact HB.out)) hb)
         clear yg
         clear yh
         clear xI
         clear xJ
         clear xP
         clear xS
         clear HB
         have yg:=yK
         have yh:=yL
         have xI:=yM
         have xJ:=yO
         have xP:=yP
         have xS:=yT
         have HB:=yU
         clear yK yL yM yO yP yT yU
         (try clear hb)
         (try clear hb2)
         (try clear hk)
         (try clear hi)
         refine hK.out _ _ ⟨(au xI.out 0).trans rfl,(au xI.out 1).trans rfl,(au xJ.out 0).trans rfl,(au xJ.out 1).trans rfl,(au xP.out 0).trans rfl,(au xP.out 1).trans rfl,(au xS.out 0).trans rfl,(au xS.out 1).trans rfl⟩ (fun hHeld=>?_)
         clear hK K
         refine bV (a':=?_) ?_ ?_
         rotate_left
         ·show Act.put _ (some 61) _ = _
          simp only [Act.put,List.setIfInBounds_toArray,List.set_cons_zero,List.set_cons_succ,bD,bG]
          rfl
         refine fV (i:=7) (N:=some 64) #[true,true,true,true,true,true,true,true,false,false,false,false,false,false,false,false] rfl rfl (eB HT_.out (by kernel_rfl)) (by decide) (fun K hK=>?_)
         refine eD Tryd.func30 (by kernel_rfl) rfl #[.agg #[.int .u64 yN,.slice zw t226.length zl],.agg #[.int .u64 t229,.slice zy yS.length zA]] (by rfl) rfl rfl (by (try simp only [List.map_toArray,List.map_cons,List.map_nil]);first|done|rfl|(simp only [List.length_drop,List.length_take];rfl)) ?_
         with_reducible refine (dQ.calls yN _ _ t226 t229 _ _ yS zL _ ?yQ ?yR ?zY ?zZ FI.out).mono ?_
         (case yQ=>repeat (first|exact (Kd.fC yg.out).2.2|(with_reducible refine Kd.dw ?_ _)|(with_reducible refine Kd.dX ?_ _)|(with_reducible refine Kd.eu ?_)))
         (case yR=>exact (Kd.fC yg.out).2.1)
         (case zY=>repeat (first|exact (Kd.fC yh.out).2.2|(with_reducible refine Kd.dw ?_ _)|(with_reducible refine Kd.dX ?_ _)|(with_reducible refine Kd.eu ?_)))
         (case zZ=>exact (Kd.fC yh.out).2.1)
         rintro e GQ ⟨rfl,hb⟩
         refine ⟨_,rfl,?_⟩
         have yK:=Aside0.mk (Kd.dz (by (with_reducible repeat (first|apply Kd.bM|apply Kd.bN|apply Kd.bW));exact yg.out) hb)
         have yL:=Aside0.mk (Kd.dz (by (with_reducible repeat (first|apply Kd.bM|apply Kd.bN|apply Kd.bW));exact yh.out) hb)
         have yM:=Aside0.mk (aK (g:=xK) (o:=.cells #[.int .u64 xR,.slice xZ xQ.length yc] 49 (0,0)) (bk_ xI.out) hb)
         have yO:=Aside0.mk (aK (g:=xL) (o:=.cells #[.int .u64 xV,.slice yw xU.length yx] 49 (0,0)) (bk_ xJ.out) hb)
         have yP:=Aside0.mk (aK (g:=xM) (o:=.cells #[.int .u64 yN,.slice zw t226.length zl] 53 (0,0)) (bk_ xP.out) hb)
         have yT:=Aside0.mk (aK (g:=xO) (o:=.cells #[.int .u64 t229,.slice zy yS.length zA] 53 (0,0)) (bk_ xS.out) hb)
         have yU:=Aside0.mk (aQ (by repeat (first|(with_reducible first|exact HB.out|apply ay|apply aj|apply av|refine ak ?_ xW.out|refine ak ?_ xY.out|refine ak ?_ yA.out|refine ak ?_ yB.out)|exact HB.out)) hb)
         clear yg
         clear yh
         clear xI
         clear xJ
         clear xP
         clear xS
         clear HB
         have yg:=yK
         have yh:=yL
         have xI:=yM
         have xJ:=yO
         have xP:=yP
         have xS:=yT
         have HB:=yU
         clear yK yL yM yO yP yT yU
         (try clear hb)
         (try clear hb2)
         (try clear hk)
         (try clear hi)
         refine hK.out _ _ ⟨(au xI.out 0).trans rfl,(au xI.out 1).trans rfl,(au xJ.out 0).trans rfl,(au xJ.out 1).trans rfl,(au xP.out 0).trans rfl,(au xP.out 1).trans rfl,(au xS.out 0).trans rfl,(au xS.out 1).trans rfl⟩ (fun hHeld=>?_)
         clear hK K
         refine bV (a':=?_) ?_ ?_
         rotate_left
         ·show Act.put _ (some 64) _ = _
          simp only [Act.put,List.setIfInBounds_toArray,List.set_cons_zero,List.set_cons_succ,bD,bG]
          rfl
         refine cZ (i:=8) (N:=some 65) (v:=?_) (a':=?_) #[true,true,true,true,true,true,true,true,true,false,false,false,false,false,false,false] rfl rfl (cB HT_.out (by kernel_rfl)) (fun _ _ _ h=>h) (Or.inl ⟨by rfl,?_⟩) ?_ ?_
         rotate_left
         ·intro w'
          go_simp
          with_reducible rfl
         rotate_left
         ·simp only [Act.put,List.setIfInBounds_toArray,List.set_cons_zero,List.set_cons_succ,bD,bG]
          rfl
         refine cZ (i:=9) (N:=some 66) (v:=?_) (a':=?_) #[true,true,true,true,true,true,true,true,true,true,false,false,false,false,false,false] rfl rfl (cB HT_.out (by kernel_rfl)) (fun _ _ _ h=>h) (Or.inl ⟨by rfl,?_⟩) ?_ ?_
         rotate_left
         ·intro w'
          go_simp
          with_reducible rfl
         rotate_left
         ·simp only [Act.put,List.setIfInBounds_toArray,List.set_cons_zero,List.set_cons_succ,bD,bG]
          rfl
         refine cZ (i:=10) (N:=some 67) (v:=?_) (a':=?_) #[true,true,true,true,true,true,true,true,true,true,true,false,false,false,false,false] rfl rfl (cB HT_.out (by kernel_rfl)) (fun _ _ _ h=>h) (Or.inl ⟨by rfl,?_⟩) ?_ ?_
         rotate_left
         ·intro w'
          go_simp
          with_reducible rfl
         rotate_left
         ·simp only [Act.put,List.setIfInBounds_toArray,List.set_cons_zero,List.set_cons_succ,bD,bG]
          rfl
         refine eX (i:=11) (N:=some 68) (v:=?_) (a':=?_) #[true,true,true,true,true,true,true,true,true,true,true,true,false,false,false,false] rfl rfl (dR HT_.out HW_.out (by kernel_rfl)) (fun _ _ _ h=>h) (Or.inl ⟨by rfl,?_⟩) hHeld ?_ ?_
         rotate_left
         ·rintro w' ⟨s0,s1,s2,s3,s4,s5,s6,s7⟩
          go_simp
          with_reducible rfl
         rotate_left
         ·simp only [Act.put,List.setIfInBounds_toArray,List.set_cons_zero,List.set_cons_succ,bD,bG]
          rfl
         refine eX (i:=12) (N:=some 69) (v:=?_) (a':=?_) #[true,true,true,true,true,true,true,true,true,true,true,true,true,false,false,false] rfl rfl (dR HT_.out HW_.out (by kernel_rfl)) (fun _ _ _ h=>h) (Or.inl ⟨by rfl,?_⟩) hHeld ?_ ?_
         rotate_left
         ·rintro w' ⟨s0,s1,s2,s3,s4,s5,s6,s7⟩
          go_simp
          with_reducible rfl
         rotate_left
         ·simp only [Act.put,List.setIfInBounds_toArray,List.set_cons_zero,List.set_cons_succ,bD,bG]
          rfl
         refine fV (i:=13) (N:=some 70) #[true,true,true,true,true,true,true,true,true,true,true,true,true,true,false,false] rfl rfl (eB HT_.out (by kernel_rfl)) (by decide) (fun K hK=>?_)
         refine eD Tryd.func29 (by kernel_rfl) rfl #[.agg #[.int .u64 xR,.slice xZ xQ.length yc],.agg #[.int .u64 xR,.slice xZ xQ.length yc]] (by rfl) rfl rfl (by (try simp only [List.map_toArray,List.map_cons,List.map_nil]);first|done|rfl|(simp only [List.length_drop,List.length_take];rfl)) ?_
         with_reducible refine (cO.calls xR _ _ xQ xR _ _ xQ zU _ ?yQ ?yR ?zY ?zZ F6.out).mono ?_
         (case yQ=>repeat (first|exact (Kd.dW zC.out HB.out)|(with_reducible refine Kd.dw ?_ _)|(with_reducible refine Kd.dX ?_ _)|(with_reducible refine Kd.eu ?_)))
         (case yR=>exact zD.out)
         (case zY=>repeat (first|exact (Kd.dW zC.out HB.out)|(with_reducible refine Kd.dw ?_ _)|(with_reducible refine Kd.dX ?_ _)|(with_reducible refine Kd.eu ?_)))
         (case zZ=>exact zD.out)
         rintro e GR ⟨rfl,hb⟩
         refine ⟨_,rfl,?_⟩
         have yK:=Aside0.mk (Kd.dz (by (with_reducible repeat (first|apply Kd.bM|apply Kd.bN|apply Kd.bW));exact yg.out) hb)
         have yL:=Aside0.mk (Kd.dz (by (with_reducible repeat (first|apply Kd.bM|apply Kd.bN|apply Kd.bW));exact yh.out) hb)
         have yM:=Aside0.mk (aK (g:=xK) (o:=.cells #[.int .u64 xR,.slice xZ xQ.length yc] 49 (0,0)) (bk_ xI.out) hb)
         have yO:=Aside0.mk (aK (g:=xL) (o:=.cells #[.int .u64 xV,.slice yw xU.length yx] 49 (0,0)) (bk_ xJ.out) hb)
         have yP:=Aside0.mk (aK (g:=xM) (o:=.cells #[.int .u64 yN,.slice zw t226.length zl] 53 (0,0)) (bk_ xP.out) hb)
         have yT:=Aside0.mk (aK (g:=xO) (o:=.cells #[.int .u64 t229,.slice zy yS.length zA] 53 (0,0)) (bk_ xS.out) hb)
         have yU:=Aside0.mk (aQ (by repeat (first|(with_reducible first|exact HB.out|apply ay|apply aj|apply av|refine ak ?_ xW.out|refine ak ?_ xY.out|refine ak ?_ yA.out|refine ak ?_ yB.out)|exact HB.out)) hb)
         clear yg
         clear yh
         clear xI
         clear xJ
         clear xP
         clear xS
         clear HB
         have yg:=yK
         have yh:=yL
         have xI:=yM
         have xJ:=yO
         have xP:=yP
         have xS:=yT
         have HB:=yU
         clear yK yL yM yO yP yT yU
         (try clear hb)
         (try clear hb2)
         (try clear hk)
         (try clear hi)
         refine hK.out _ _ ⟨(au xI.out 0).trans rfl,(au xI.out 1).trans rfl,(au xJ.out 0).trans rfl,(au xJ.out 1).trans rfl,(au xP.out 0).trans rfl,(au xP.out 1).trans rfl,(au xS.out 0).trans rfl,(au xS.out 1).trans rfl⟩ (fun hHeld=>?_)
         clear hK K
         refine bV (a':=?_) ?_ ?_
         rotate_left
         ·show Act.put _ (some 70) _ = _
          simp only [Act.put,List.setIfInBounds_toArray,List.set_cons_zero,List.set_cons_succ,bD,bG]
          rfl
         refine cZ (i:=14) (N:=some 71) (v:=?_) (a':=?_) #[true,true,true,true,true,true,true,true,true,true,true,true,true,true,true,false] rfl rfl (cB HT_.out (by kernel_rfl)) (fun _ _ _ h=>h) (Or.inl ⟨by rfl,?_⟩) ?_ ?_
         rotate_left
         ·intro w'
          go_simp
          with_reducible rfl
         rotate_left
         ·simp only [Act.put,List.setIfInBounds_toArray,List.set_cons_zero,List.set_cons_succ,bD,bG]
          rfl
         refine cZ (i:=15) (N:=some 4) (v:=?_) (a':=?_) #[true,true,true,true,true,true,true,true,true,true,true,true,true,true,true,true] rfl rfl (cB HT_.out (by kernel_rfl)) (fun _ _ _ h=>h) (Or.inl ⟨by rfl,?_⟩) ?_ ?_
         rotate_left
         ·intro w'
          go_simp
          with_reducible rfl
         rotate_left
         ·simp only [Act.put,List.setIfInBounds_toArray,List.set_cons_zero,List.set_cons_succ,bD,bG]
          rfl
         refine jv (gX HT_.out (by kernel_rfl)) ?_
         try go_wp2
         go_ret
         exact ⟨by first|rfl|(simp [aZ,bf] <;> rfl)|(simp [*,aZ,bf] <;> rfl),by repeat (first|(with_reducible first|exact HB.out|apply ay|apply aj|apply av|refine ak ?_ xW.out|refine ak ?_ xY.out|refine ak ?_ yA.out|refine ak ?_ yB.out)|exact HB.out)⟩
        ·rw [if_neg AX] at H
         have c90b0 : (zM == zL) = false:=by simpa using AX
         (try (have c90b1 : decide (zM = zL) = false:=by simpa using AX))
         (try (have c90b2 : (zM == zL) = false:=by simpa using AX))
         (try (have c90b3 : ¬ (zM = zL):=by simpa using AX))
         clear AX
         obtain rfl:=Option.some.inj H
         try go_wp2
         have yK:=Aside0.mk (Kd.bW yg.out)
         have yL:=Aside0.mk (Kd.bW yh.out)
         have yM:=Aside0.mk (aG xI.out)
         have yO:=Aside0.mk (aG xJ.out)
         have yP:=Aside0.mk (aG xP.out)
         have yT:=Aside0.mk (aG xS.out)
         have yU:=Aside0.mk (av HB.out)
         clear yg
         clear yh
         clear xI
         clear xJ
         clear xP
         clear xS
         clear HB
         have yg:=yK
         have yh:=yL
         have xI:=yM
         have xJ:=yO
         have xP:=yP
         have xS:=yT
         have HB:=yU
         clear yK yL yM yO yP yT yU
         refine iM (n:=16) (S:=fun w'=>w'.cell? ⟨xK,0,none⟩ = some (.int .u64 xR) ∧ w'.cell? ⟨xK,1,none⟩ = some (.slice xZ xQ.length yc) ∧ w'.cell? ⟨xL,0,none⟩ = some (.int .u64 xV) ∧ w'.cell? ⟨xL,1,none⟩ = some (.slice yw xU.length yx) ∧ w'.cell? ⟨xM,0,none⟩ = some (.int .u64 yN) ∧ w'.cell? ⟨xM,1,none⟩ = some (.slice zw t226.length zl) ∧ w'.cell? ⟨xO,0,none⟩ = some (.int .u64 t229) ∧ w'.cell? ⟨xO,1,none⟩ = some (.slice zy yS.length zA)) (ds:=[]) #[false,false,false,false,false,false,false,false,false,false,false,false,false,false,false,false] (by kernel_rfl) rfl rfl ⟨(au xI.out 0).trans rfl,(au xI.out 1).trans rfl,(au xJ.out 0).trans rfl,(au xJ.out 1).trans rfl,(au xP.out 0).trans rfl,(au xP.out 1).trans rfl,(au xS.out 0).trans rfl,(au xS.out 1).trans rfl⟩ (fun hHeld=>?_);refine fP aI.uS aI.rO (fun HT_ HW_=>?_)
         generalize wc.drew = GU at yg yh xI xJ xP xS HB hHeld ⊢
         refine fV (i:=0) (N:=some 57) #[true,false,false,false,false,false,false,false,false,false,false,false,false,false,false,false] rfl rfl (eB HT_.out (by kernel_rfl)) (by decide) (fun K hK=>?_)
         refine eD Tryd.func23 (by kernel_rfl) rfl #[] (by rfl) rfl rfl (by (try simp only [List.map_toArray,List.map_cons,List.map_nil]);first|done|rfl|(simp only [List.length_drop,List.length_take];rfl)) ?_
         with_reducible refine (cK.calls Cx  true _ Ea.out).mono ?_
         rintro e GV ⟨rfl,hb⟩
         refine ⟨_,rfl,?_⟩
         have yK:=Aside0.mk (Kd.dz (by (with_reducible repeat (first|apply Kd.bM|apply Kd.bN|apply Kd.bW));exact yg.out) hb)
         have yL:=Aside0.mk (Kd.dz (by (with_reducible repeat (first|apply Kd.bM|apply Kd.bN|apply Kd.bW));exact yh.out) hb)
         have yM:=Aside0.mk (aK (g:=xK) (o:=.cells #[.int .u64 xR,.slice xZ xQ.length yc] 49 (0,0)) (bk_ xI.out) hb)
         have yO:=Aside0.mk (aK (g:=xL) (o:=.cells #[.int .u64 xV,.slice yw xU.length yx] 49 (0,0)) (bk_ xJ.out) hb)
         have yP:=Aside0.mk (aK (g:=xM) (o:=.cells #[.int .u64 yN,.slice zw t226.length zl] 53 (0,0)) (bk_ xP.out) hb)
         have yT:=Aside0.mk (aK (g:=xO) (o:=.cells #[.int .u64 t229,.slice zy yS.length zA] 53 (0,0)) (bk_ xS.out) hb)
         have yU:=Aside0.mk (aQ (by repeat (first|(with_reducible first|exact HB.out|apply ay|apply aj|apply av|refine ak ?_ xW.out|refine ak ?_ xY.out|refine ak ?_ yA.out|refine ak ?_ yB.out)|exact HB.out)) hb)
         clear yg
         clear yh
         clear xI
         clear xJ
         clear xP
         clear xS
         clear HB
         have yg:=yK
         have yh:=yL
         have xI:=yM
         have xJ:=yO
         have xP:=yP
         have xS:=yT
         have HB:=yU
         clear yK yL yM yO yP yT yU
         (try clear hb)
         (try clear hb2)
         (try clear hk)
         (try clear hi)
         refine hK.out _ _ ⟨(au xI.out 0).trans rfl,(au xI.out 1).trans rfl,(au xJ.out 0).trans rfl,(au xJ.out 1).trans rfl,(au xP.out 0).trans rfl,(au xP.out 1).trans rfl,(au xS.out 0).trans rfl,(au xS.out 1).trans rfl⟩ (fun hHeld=>?_)
         clear hK K
         refine bV (a':=?_) ?_ ?_
         rotate_left
         ·show Act.put _ (some 57) _ = _
          simp only [Act.put,List.setIfInBounds_toArray,List.set_cons_zero,List.set_cons_succ,bD,bG]
          rfl
         refine cZ (i:=1) (N:=some 58) (v:=?_) (a':=?_) #[true,true,false,false,false,false,false,false,false,false,false,false,false,false,false,false] rfl rfl (cB HT_.out (by kernel_rfl)) (fun _ _ _ h=>h) (Or.inl ⟨by rfl,?_⟩) ?_ ?_
         rotate_left
         ·intro w'
          go_simp
          with_reducible rfl
         rotate_left
         ·simp only [Act.put,List.setIfInBounds_toArray,List.set_cons_zero,List.set_cons_succ,bD,bG]
          rfl
         refine eX (i:=2) (N:=some 59) (v:=?_) (a':=?_) #[true,true,true,false,false,false,false,false,false,false,false,false,false,false,false,false] rfl rfl (dR HT_.out HW_.out (by kernel_rfl)) (fun _ _ _ h=>h) (Or.inl ⟨by rfl,?_⟩) hHeld ?_ ?_
         rotate_left
         ·rintro w' ⟨s0,s1,s2,s3,s4,s5,s6,s7⟩
          go_simp
          with_reducible rfl
         rotate_left
         ·simp only [Act.put,List.setIfInBounds_toArray,List.set_cons_zero,List.set_cons_succ,bD,bG]
          rfl
         refine eX (i:=3) (N:=some 60) (v:=?_) (a':=?_) #[true,true,true,true,false,false,false,false,false,false,false,false,false,false,false,false] rfl rfl (dR HT_.out HW_.out (by kernel_rfl)) (fun _ _ _ h=>h) (Or.inl ⟨by rfl,?_⟩) hHeld ?_ ?_
         rotate_left
         ·rintro w' ⟨s0,s1,s2,s3,s4,s5,s6,s7⟩
          go_simp
          with_reducible rfl
         rotate_left
         ·simp only [Act.put,List.setIfInBounds_toArray,List.set_cons_zero,List.set_cons_succ,bD,bG]
          rfl
         refine eX (i:=5) (N:=some 62) (v:=?_) (a':=?_) #[true,true,true,true,false,true,false,false,false,false,false,false,false,false,false,false] rfl rfl (dR HT_.out HW_.out (by kernel_rfl)) (fun _ _ _ h=>h) (Or.inl ⟨by rfl,?_⟩) hHeld ?_ ?_
         rotate_left
         ·rintro w' ⟨s0,s1,s2,s3,s4,s5,s6,s7⟩
          go_simp
          with_reducible rfl
         rotate_left
         ·simp only [Act.put,List.setIfInBounds_toArray,List.set_cons_zero,List.set_cons_succ,bD,bG]
          rfl
         refine eX (i:=6) (N:=some 63) (v:=?_) (a':=?_) #[true,true,true,true,false,true,true,false,false,false,false,false,false,false,false,false] rfl rfl (dR HT_.out HW_.out (by kernel_rfl)) (fun _ _ _ h=>h) (Or.inl ⟨by rfl,?_⟩) hHeld ?_ ?_
         rotate_left
         ·rintro w' ⟨s0,s1,s2,s3,s4,s5,s6,s7⟩
          go_simp
          with_reducible rfl
         rotate_left
         ·simp only [Act.put,List.setIfInBounds_toArray,List.set_cons_zero,List.set_cons_succ,bD,bG]
          rfl
         refine fV (i:=4) (N:=some 61) #[true,true,true,true,true,true,true,false,false,false,false,false,false,false,false,false] rfl rfl (eB HT_.out (by kernel_rfl)) (by decide) (fun K hK=>?_)
         refine eD Tryd.func29 (by kernel_rfl) rfl #[.agg #[.int .u64 xR,.slice xZ xQ.length yc],.agg #[.int .u64 xV,.slice yw xU.length yx]] (by rfl) rfl rfl (by (try simp only [List.map_toArray,List.map_cons,List.map_nil]);first|done|rfl|(simp only [List.length_drop,List.length_take];rfl)) ?_
         with_reducible refine (cO.calls xR _ _ xQ xV _ _ xU zM _ ?yQ ?yR ?zY ?zZ FH.out).mono ?_
         (case yQ=>repeat (first|exact (Kd.dW zC.out HB.out)|(with_reducible refine Kd.dw ?_ _)|(with_reducible refine Kd.dX ?_ _)|(with_reducible refine Kd.eu ?_)))
         (case yR=>exact zD.out)
         (case zY=>repeat (first|exact (Kd.dW Ah.out HB.out)|(with_reducible refine Kd.dw ?_ _)|(with_reducible refine Kd.dX ?_ _)|(with_reducible refine Kd.eu ?_)))
         (case zZ=>exact Ai.out)
         rintro e GX ⟨rfl,hb⟩
         refine ⟨_,rfl,?_⟩
         have yK:=Aside0.mk (Kd.dz (by (with_reducible repeat (first|apply Kd.bM|apply Kd.bN|apply Kd.bW));exact yg.out) hb)
         have yL:=Aside0.mk (Kd.dz (by (with_reducible repeat (first|apply Kd.bM|apply Kd.bN|apply Kd.bW));exact yh.out) hb)
         have yM:=Aside0.mk (aK (g:=xK) (o:=.cells #[.int .u64 xR,.slice xZ xQ.length yc] 49 (0,0)) (bk_ xI.out) hb)
         have yO:=Aside0.mk (aK (g:=xL) (o:=.cells #[.int .u64 xV,.slice yw xU.length yx] 49 (0,0)) (bk_ xJ.out) hb)
         have yP:=Aside0.mk (aK (g:=xM) (o:=.cells #[.int .u64 yN,.slice zw t226.length zl] 53 (0,0)) (bk_ xP.out) hb)
         have yT:=Aside0.mk (aK (g:=xO) (o:=.cells #[.int .u64 t229,.slice zy yS.length zA] 53 (0,0)) (bk_ xS.out) hb)
         have yU:=Aside0.mk (aQ (by repeat (first|(with_reducible first|exact HB.out|apply ay|apply aj|apply av|refine ak ?_ xW.out|refine ak ?_ xY.out|refine ak ?_ yA.out|refine ak ?_ yB.out)|exact HB.out)) hb)
         clear yg
         clear yh
         clear xI
         clear xJ
         clear xP
         clear xS
         clear HB
         have yg:=yK
         have yh:=yL
         have xI:=yM
         have xJ:=yO
         have xP:=yP
         have xS:=yT
         have HB:=yU
         clear yK yL yM yO yP yT yU
         (try clear hb)
         (try clear hb2)
         (try clear hk)
         (try clear hi)
         refine hK.out _ _ ⟨(au xI.out 0).trans rfl,(au xI.out 1).trans rfl,(au xJ.out 0).trans rfl,(au xJ.out 1).trans rfl,(au xP.out 0).trans rfl,(au xP.out 1).trans rfl,(au xS.out 0).trans rfl,(au xS.out 1).trans rfl⟩ (fun hHeld=>?_)
         clear hK K
         refine bV (a':=?_) ?_ ?_
         rotate_left
         ·show Act.put _ (some 61) _ = _
          simp only [Act.put,List.setIfInBounds_toArray,List.set_cons_zero,List.set_cons_succ,bD,bG]
          rfl
         refine fV (i:=7) (N:=some 64) #[true,true,true,true,true,true,true,true,false,false,false,false,false,false,false,false] rfl rfl (eB HT_.out (by kernel_rfl)) (by decide) (fun K hK=>?_)
         refine eD Tryd.func30 (by kernel_rfl) rfl #[.agg #[.int .u64 yN,.slice zw t226.length zl],.agg #[.int .u64 t229,.slice zy yS.length zA]] (by rfl) rfl rfl (by (try simp only [List.map_toArray,List.map_cons,List.map_nil]);first|done|rfl|(simp only [List.length_drop,List.length_take];rfl)) ?_
         with_reducible refine (dQ.calls yN _ _ t226 t229 _ _ yS zL _ ?yQ ?yR ?zY ?zZ FI.out).mono ?_
         (case yQ=>repeat (first|exact (Kd.fC yg.out).2.2|(with_reducible refine Kd.dw ?_ _)|(with_reducible refine Kd.dX ?_ _)|(with_reducible refine Kd.eu ?_)))
         (case yR=>exact (Kd.fC yg.out).2.1)
         (case zY=>repeat (first|exact (Kd.fC yh.out).2.2|(with_reducible refine Kd.dw ?_ _)|(with_reducible refine Kd.dX ?_ _)|(with_reducible refine Kd.eu ?_)))
         (case zZ=>exact (Kd.fC yh.out).2.1)
         rintro e F7 ⟨rfl,hb⟩
         refine ⟨_,rfl,?_⟩
         have yK:=Aside0.mk (Kd.dz (by (with_reducible repeat (first|apply Kd.bM|apply Kd.bN|apply Kd.bW));exact yg.out) hb)
         have yL:=Aside0.mk (Kd.dz (by (with_reducible repeat (first|apply Kd.bM|apply Kd.bN|apply Kd.bW));exact yh.out) hb)
         have yM:=Aside0.mk (aK (g:=xK) (o:=.cells #[.int .u64 xR,.slice xZ xQ.length yc] 49 (0,0)) (bk_ xI.out) hb)
         have yO:=Aside0.mk (aK (g:=xL) (o:=.cells #[.int .u64 xV,.slice yw xU.length yx] 49 (0,0)) (bk_ xJ.out) hb)
         have yP:=Aside0.mk (aK (g:=xM) (o:=.cells #[.int .u64 yN,.slice zw t226.length zl] 53 (0,0)) (bk_ xP.out) hb)
         have yT:=Aside0.mk (aK (g:=xO) (o:=.cells #[.int .u64 t229,.slice zy yS.length zA] 53 (0,0)) (bk_ xS.out) hb)
         have yU:=Aside0.mk (aQ (by repeat (first|(with_reducible first|exact HB.out|apply ay|apply aj|apply av|refine ak ?_ xW.out|refine ak ?_ xY.out|refine ak ?_ yA.out|refine ak ?_ yB.out)|exact HB.out)) hb)
         clear yg
         clear yh
         clear xI
         clear xJ
         clear xP
         clear xS
         clear HB
         have yg:=yK
         have yh:=yL
         have xI:=yM
         have xJ:=yO
         have xP:=yP
         have xS:=yT
         have HB:=yU
         clear yK yL yM yO yP yT yU
         (try clear hb)
         (try clear hb2)
         (try clear hk)
         (try clear hi)
         refine hK.out _ _ ⟨(au xI.out 0).trans rfl,(au xI.out 1).trans rfl,(au xJ.out 0).trans rfl,(au xJ.out 1).trans rfl,(au xP.out 0).trans rfl,(au xP.out 1).trans rfl,(au xS.out 0).trans rfl,(au xS.out 1).trans rfl⟩ (fun hHeld=>?_)
         clear hK K
         refine bV (a':=?_) ?_ ?_
         rotate_left
         ·show Act.put _ (some 64) _ = _
          simp only [Act.put,List.setIfInBounds_toArray,List.set_cons_zero,List.set_cons_succ,bD,bG]
          rfl
         refine cZ (i:=8) (N:=some 65) (v:=?_) (a':=?_) #[true,true,true,true,true,true,true,true,true,false,false,false,false,false,false,false] rfl rfl (cB HT_.out (by kernel_rfl)) (fun _ _ _ h=>h) (Or.inl ⟨by rfl,?_⟩) ?_ ?_
         rotate_left
         ·intro w'
          go_simp
          with_reducible rfl
         rotate_left
         ·simp only [Act.put,List.setIfInBounds_toArray,List.set_cons_zero,List.set_cons_succ,bD,bG]
          rfl
         refine cZ (i:=9) (N:=some 66) (v:=?_) (a':=?_) #[true,true,true,true,true,true,true,true,true,true,false,false,false,false,false,false] rfl rfl (cB HT_.out (by kernel_rfl)) (fun _ _ _ h=>h) (Or.inl ⟨by rfl,?_⟩) ?_ ?_
         rotate_left
         ·intro w'
          go_simp
          with_reducible rfl
         rotate_left
         ·simp only [Act.put,List.setIfInBounds_toArray,List.set_cons_zero,List.set_cons_succ,bD,bG]
          rfl
         refine cZ (i:=10) (N:=some 67) (v:=?_) (a':=?_) #[true,true,true,true,true,true,true,true,true,true,true,false,false,false,false,false] rfl rfl (cB HT_.out (by kernel_rfl)) (fun _ _ _ h=>h) (Or.inl ⟨by rfl,?_⟩) ?_ ?_
         rotate_left
         ·intro w'
          go_simp
          with_reducible rfl
         rotate_left
         ·simp only [Act.put,List.setIfInBounds_toArray,List.set_cons_zero,List.set_cons_succ,bD,bG]
          rfl
         refine cZ (i:=11) (N:=some 68) (v:=undef) (a':=?_) #[true,true,true,true,true,true,true,true,true,true,true,true,false,false,false,false] rfl rfl (cB HT_.out (by kernel_rfl)) (fun _ _ _ h=>h) (Or.inr ⟨by rfl,rfl⟩) ?_ ?_
         rotate_left
         ·simp only [Act.put,List.setIfInBounds_toArray,List.set_cons_zero,List.set_cons_succ,bD,bG]
          rfl
         refine cZ (i:=12) (N:=some 69) (v:=undef) (a':=?_) #[true,true,true,true,true,true,true,true,true,true,true,true,true,false,false,false] rfl rfl (cB HT_.out (by kernel_rfl)) (fun _ _ _ h=>h) (Or.inr ⟨by rfl,rfl⟩) ?_ ?_
         rotate_left
         ·simp only [Act.put,List.setIfInBounds_toArray,List.set_cons_zero,List.set_cons_succ,bD,bG]
          rfl
         refine cZ (i:=13) (N:=some 70) (v:=undef) (a':=?_) #[true,true,true,true,true,true,true,true,true,true,true,true,true,true,false,false] rfl rfl (cB HT_.out (by kernel_rfl)) (fun _ _ _ h=>h) (Or.inr ⟨by rfl,rfl⟩) ?_ ?_
         rotate_left
         ·simp only [Act.put,List.setIfInBounds_toArray,List.set_cons_zero,List.set_cons_succ,bD,bG]
          rfl
         refine cZ (i:=14) (N:=some 71) (v:=?_) (a':=?_) #[true,true,true,true,true,true,true,true,true,true,true,true,true,true,true,false] rfl rfl (cB HT_.out (by kernel_rfl)) (fun _ _ _ h=>h) (Or.inl ⟨by rfl,?_⟩) ?_ ?_
         rotate_left
         ·intro w'
          go_simp
          with_reducible rfl
         rotate_left
         ·simp only [Act.put,List.setIfInBounds_toArray,List.set_cons_zero,List.set_cons_succ,bD,bG]
          rfl
         refine cZ (i:=15) (N:=some 4) (v:=?_) (a':=?_) #[true,true,true,true,true,true,true,true,true,true,true,true,true,true,true,true] rfl rfl (cB HT_.out (by kernel_rfl)) (fun _ _ _ h=>h) (Or.inl ⟨by rfl,?_⟩) ?_ ?_
         rotate_left
         ·intro w'
          go_simp
          with_reducible rfl
         rotate_left
         ·simp only [Act.put,List.setIfInBounds_toArray,List.set_cons_zero,List.set_cons_succ,bD,bG]
          rfl
         refine jv (gX HT_.out (by kernel_rfl)) ?_
         try go_wp2
         go_ret
         exact ⟨by first|rfl|(simp [aZ,bf] <;> rfl)|(simp [*,aZ,bf] <;> rfl),by repeat (first|(with_reducible first|exact HB.out|apply ay|apply aj|apply av|refine ak ?_ xW.out|refine ak ?_ xY.out|refine ak ?_ yA.out|refine ak ?_ yB.out)|exact HB.out)⟩
       ·replace c87:=Bool.eq_false_iff.mpr c87
        subst c87
        have H1 : (some false) = some r:=by rw [if_neg (show ¬ (false = true) by decide)] at H;exact H
        clear H
        have H:=H1
        clear H1
        obtain rfl:=Option.some.inj H
        try go_wp2
        have yK:=Aside0.mk (Kd.bW yg.out)
        have yL:=Aside0.mk (Kd.bW yh.out)
        have yM:=Aside0.mk (aG xI.out)
        have yO:=Aside0.mk (aG xJ.out)
        have yP:=Aside0.mk (aG xP.out)
        have yT:=Aside0.mk (aG xS.out)
        have yU:=Aside0.mk (av HB.out)
        clear yg
        clear yh
        clear xI
        clear xJ
        clear xP
        clear xS
        clear HB
        have yg:=yK
        have yh:=yL
        have xI:=yM
        have xJ:=yO
        have xP:=yP
        have xS:=yT
        have HB:=yU
        clear yK yL yM yO yP yT yU
        refine iM (n:=16) (S:=fun w'=>True) (ds:=[]) #[false,false,false,false,false,false,false,false,false,false,false,false,false,false,false,false] (by kernel_rfl) rfl rfl trivial (fun hHeld=>?_);refine fP aI.uS aI.rO (fun HT_ HW_=>?_)
        generalize wc.drew = F8 at yg yh xI xJ xP xS HB hHeld ⊢
        refine fV (i:=0) (N:=some 57) #[true,false,false,false,false,false,false,false,false,false,false,false,false,false,false,false] rfl rfl (eB HT_.out (by kernel_rfl)) (by decide) (fun K hK=>?_)
        refine eD Tryd.func23 (by kernel_rfl) rfl #[] (by rfl) rfl rfl (by (try simp only [List.map_toArray,List.map_cons,List.map_nil]);first|done|rfl|(simp only [List.length_drop,List.length_take];rfl)) ?_
        with_reducible refine (cK.calls Cx  false _ Ea.out).mono ?_
        rintro e F9 ⟨rfl,hb⟩
        refine ⟨_,rfl,?_⟩
        have yK:=Aside0.mk (Kd.dz (by (with_reducible repeat (first|apply Kd.bM|apply Kd.bN|apply Kd.bW));exact yg.out) hb)
        have yL:=Aside0.mk (Kd.dz (by (with_reducible repeat (first|apply Kd.bM|apply Kd.bN|apply Kd.bW));exact yh.out) hb)
        have yM:=Aside0.mk (aK (g:=xK) (o:=.cells #[.int .u64 xR,.slice xZ xQ.length yc] 49 (0,0)) (bk_ xI.out) hb)
        have yO:=Aside0.mk (aK (g:=xL) (o:=.cells #[.int .u64 xV,.slice yw xU.length yx] 49 (0,0)) (bk_ xJ.out) hb)
        have yP:=Aside0.mk (aK (g:=xM) (o:=.cells #[.int .u64 yN,.slice zw t226.length zl] 53 (0,0)) (bk_ xP.out) hb)
        have yT:=Aside0.mk (aK (g:=xO) (o:=.cells #[.int .u64 t229,.slice zy yS.length zA] 53 (0,0)) (bk_ xS.out) hb)
        have yU:=Aside0.mk (aQ (by repeat (first|(with_reducible first|exact HB.out|apply ay|apply aj|apply av|refine ak ?_ xW.out|refine ak ?_ xY.out|refine ak ?_ yA.out|refine ak ?_ yB.out)|exact HB.out)) hb)
        clear yg
        clear yh
        clear xI
        clear xJ
        clear xP
        clear xS
        clear HB
        have yg:=yK
        have yh:=yL
        have xI:=yM
        have xJ:=yO
        have xP:=yP
        have xS:=yT
        have HB:=yU
        clear yK yL yM yO yP yT yU
        (try clear hb)
        (try clear hb2)
        (try clear hk)
        (try clear hi)
        refine hK.out _ _ trivial (fun hHeld=>?_)
        clear hK K
        refine bV (a':=?_) ?_ ?_
        rotate_left
        ·show Act.put _ (some 57) _ = _
         simp only [Act.put,List.setIfInBounds_toArray,List.set_cons_zero,List.set_cons_succ,bD,bG]
         rfl
        refine cZ (i:=1) (N:=some 58) (v:=?_) (a':=?_) #[true,true,false,false,false,false,false,false,false,false,false,false,false,false,false,false] rfl rfl (cB HT_.out (by kernel_rfl)) (fun _ _ _ h=>h) (Or.inl ⟨by rfl,?_⟩) ?_ ?_
        rotate_left
        ·intro w'
         go_simp
         with_reducible rfl
        rotate_left
        ·simp only [Act.put,List.setIfInBounds_toArray,List.set_cons_zero,List.set_cons_succ,bD,bG]
         rfl
        refine cZ (i:=2) (N:=some 59) (v:=undef) (a':=?_) #[true,true,true,false,false,false,false,false,false,false,false,false,false,false,false,false] rfl rfl (cB HT_.out (by kernel_rfl)) (fun _ _ _ h=>h) (Or.inr ⟨by rfl,rfl⟩) ?_ ?_
        rotate_left
        ·simp only [Act.put,List.setIfInBounds_toArray,List.set_cons_zero,List.set_cons_succ,bD,bG]
         rfl
        refine cZ (i:=3) (N:=some 60) (v:=undef) (a':=?_) #[true,true,true,true,false,false,false,false,false,false,false,false,false,false,false,false] rfl rfl (cB HT_.out (by kernel_rfl)) (fun _ _ _ h=>h) (Or.inr ⟨by rfl,rfl⟩) ?_ ?_
        rotate_left
        ·simp only [Act.put,List.setIfInBounds_toArray,List.set_cons_zero,List.set_cons_succ,bD,bG]
         rfl
        refine cZ (i:=4) (N:=some 61) (v:=undef) (a':=?_) #[true,true,true,true,true,false,false,false,false,false,false,false,false,false,false,false] rfl rfl (cB HT_.out (by kernel_rfl)) (fun _ _ _ h=>h) (Or.inr ⟨by rfl,rfl⟩) ?_ ?_
        rotate_left
        ·simp only [Act.put,List.setIfInBounds_toArray,List.set_cons_zero,List.set_cons_succ,bD,bG]
         rfl
        refine cZ (i:=5) (N:=some 62) (v:=undef) (a':=?_) #[true,true,true,true,true,true,false,false,false,false,false,false,false,false,false,false] rfl rfl (cB HT_.out (by kernel_rfl)) (fun _ _ _ h=>h) (Or.inr ⟨by rfl,rfl⟩) ?_ ?_
        rotate_left
        ·simp only [Act.put,List.setIfInBounds_toArray,List.set_cons_zero,List.set_cons_succ,bD,bG]
         rfl
        refine cZ (i:=6) (N:=some 63) (v:=undef) (a':=?_) #[true,true,true,true,true,true,true,false,false,false,false,false,false,false,false,false] rfl rfl (cB HT_.out (by kernel_rfl)) (fun _ _ _ h=>h) (Or.inr ⟨by rfl,rfl⟩) ?_ ?_
        rotate_left
        ·simp only [Act.put,List.setIfInBounds_toArray,List.set_cons_zero,List.set_cons_succ,bD,bG]
         rfl
        refine cZ (i:=7) (N:=some 64) (v:=undef) (a':=?_) #[true,true,true,true,true,true,true,true,false,false,false,false,false,false,false,false] rfl rfl (cB HT_.out (by kernel_rfl)) (fun _ _ _ h=>h) (Or.inr ⟨by rfl,rfl⟩) ?_ ?_
        rotate_left
        ·simp only [Act.put,List.setIfInBounds_toArray,List.set_cons_zero,List.set_cons_succ,bD,bG]
         rfl
        refine cZ (i:=8) (N:=some 65) (v:=undef) (a':=?_) #[true,true,true,true,true,true,true,true,true,false,false,false,false,false,false,false] rfl rfl (cB HT_.out (by kernel_rfl)) (fun _ _ _ h=>h) (Or.inr ⟨by rfl,rfl⟩) ?_ ?_
        rotate_left
        ·simp only [Act.put,List.setIfInBounds_toArray,List.set_cons_zero,List.set_cons_succ,bD,bG]
         rfl
        refine cZ (i:=9) (N:=some 66) (v:=?_) (a':=?_) #[true,true,true,true,true,true,true,true,true,true,false,false,false,false,false,false] rfl rfl (cB HT_.out (by kernel_rfl)) (fun _ _ _ h=>h) (Or.inl ⟨by rfl,?_⟩) ?_ ?_
        rotate_left
        ·intro w'
         go_simp
         with_reducible rfl
        rotate_left
        ·simp only [Act.put,List.setIfInBounds_toArray,List.set_cons_zero,List.set_cons_succ,bD,bG]
         rfl
        refine cZ (i:=10) (N:=some 67) (v:=?_) (a':=?_) #[true,true,true,true,true,true,true,true,true,true,true,false,false,false,false,false] rfl rfl (cB HT_.out (by kernel_rfl)) (fun _ _ _ h=>h) (Or.inl ⟨by rfl,?_⟩) ?_ ?_
        rotate_left
        ·intro w'
         go_simp
         with_reducible rfl
        rotate_left
        ·simp only [Act.put,List.setIfInBounds_toArray,List.set_cons_zero,List.set_cons_succ,bD,bG]
         rfl
        refine cZ (i:=11) (N:=some 68) (v:=undef) (a':=?_) #[true,true,true,true,true,true,true,true,true,true,true,true,false,false,false,false] rfl rfl (cB HT_.out (by kernel_rfl)) (fun _ _ _ h=>h) (Or.inr ⟨by rfl,rfl⟩) ?_ ?_
        rotate_left
        ·simp only [Act.put,List.setIfInBounds_toArray,List.set_cons_zero,List.set_cons_succ,bD,bG]
         rfl
        refine cZ (i:=12) (N:=some 69) (v:=undef) (a':=?_) #[true,true,true,true,true,true,true,true,true,true,true,true,true,false,false,false] rfl rfl (cB HT_.out (by kernel_rfl)) (fun _ _ _ h=>h) (Or.inr ⟨by rfl,rfl⟩) ?_ ?_
        rotate_left
        ·simp only [Act.put,List.setIfInBounds_toArray,List.set_cons_zero,List.set_cons_succ,bD,bG]
         rfl
        refine cZ (i:=13) (N:=some 70) (v:=undef) (a':=?_) #[true,true,true,true,true,true,true,true,true,true,true,true,true,true,false,false] rfl rfl (cB HT_.out (by kernel_rfl)) (fun _ _ _ h=>h) (Or.inr ⟨by rfl,rfl⟩) ?_ ?_
        rotate_left
        ·simp only [Act.put,List.setIfInBounds_toArray,List.set_cons_zero,List.set_cons_succ,bD,bG]
         rfl
        refine cZ (i:=14) (N:=some 71) (v:=?_) (a':=?_) #[true,true,true,true,true,true,true,true,true,true,true,true,true,true,true,false] rfl rfl (cB HT_.out (by kernel_rfl)) (fun _ _ _ h=>h) (Or.inl ⟨by rfl,?_⟩) ?_ ?_
        rotate_left
        ·intro w'
         go_simp
         with_reducible rfl
        rotate_left
        ·simp only [Act.put,List.setIfInBounds_toArray,List.set_cons_zero,List.set_cons_succ,bD,bG]
         rfl
        refine cZ (i:=15) (N:=some 4) (v:=?_) (a':=?_) #[true,true,true,true,true,true,true,true,true,true,true,true,true,true,true,true] rfl rfl (cB HT_.out (by kernel_rfl)) (fun _ _ _ h=>h) (Or.inl ⟨by rfl,?_⟩) ?_ ?_
        rotate_left
        ·intro w'
         go_simp
         with_reducible rfl
        rotate_left
        ·simp only [Act.put,List.setIfInBounds_toArray,List.set_cons_zero,List.set_cons_succ,bD,bG]
         rfl
        refine jv (gX HT_.out (by kernel_rfl)) ?_
        try go_wp2
        go_ret
        exact ⟨by first|rfl|(simp [aZ,bf] <;> rfl)|(simp [*,aZ,bf] <;> rfl),by repeat (first|(with_reducible first|exact HB.out|apply ay|apply aj|apply av|refine ak ?_ xW.out|refine ak ?_ xY.out|refine ak ?_ yA.out|refine ak ?_ yB.out)|exact HB.out)⟩
end Go.Proofs.YtpmbdcljphpcnaaDoor.GC2
