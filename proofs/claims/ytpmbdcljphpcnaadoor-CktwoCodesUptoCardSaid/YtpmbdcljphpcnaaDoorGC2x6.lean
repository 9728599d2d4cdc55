/- Written by this session's own program (wip/gen.py) out of the translation: plain Lean functions of the Go functions, and proofs that the calls come to their answers. No conditions beside those in the statements. -/
import Derived.Test.YtpmbdcljphpcnaaDoorGC2x0
import Derived.Test.YtpmbdcljphpcnaaDoorGC2x2
import Derived.Test.YtpmbdcljphpcnaaDoorGC2x5
import Derived.Test.YtpmbdcljphpcnaaDoorGC2Cons
import Derived.Test.YtpmbdcljphpcnaaDoorGC2Name
namespace Go.Proofs.YtpmbdcljphpcnaaDoor.GC2
open Go.RowKit Go.Proofs.YtpmbdcljphpcnaaDoorW.PrintWords Go.Proofs.YtpmbdcljphpcnaaDoorW.PrintLast Go.Proofs.YtpmbdcljphpcnaaDoorW.PrintMore
attribute [local go_sem] eY eZ fJ fK eP eT fq fu
set_option linter.unusedVariables false
set_option linter.unusedSimpArgs false
mutual
def aM.l0 : Nat → List (S98) → Int → Int → Int → List (S98) → Option (Int)
 | 0,_,_,_,_,_=>none
 | k + 1,yG,BI,yA,yc,xZ=>if yA < BI then (if 0 ≤ yA then (if yA < (yG.length : Int) then ((bQ.f k ((aD yG yA).f0)).bind fun BS=>(if BS = true then ((dG.f k ((aD yG yA).f1)).bind fun t143=>(if t143 = true then ((aX.f k ((aD yG yA).f2)).bind fun yP=>(aM.j1 k yA yG BI yA (!yP) yc xZ ((aD yG yA).f0) ((aD yG yA).f1) ((aD yG yA).f2) ((aD yG yA).f3) ((aD yG yA).f4) ((aD yG yA).f5))) else (aM.j1 k yA yG BI yA true yc xZ ((aD yG yA).f0) ((aD yG yA).f1) ((aD yG yA).f2) ((aD yG yA).f3) ((aD yG yA).f4) ((aD yG yA).f5)))) else (aM.j1 k yA yG BI yA true yc xZ ((aD yG yA).f0) ((aD yG yA).f1) ((aD yG yA).f2) ((aD yG yA).f3) ((aD yG yA).f4) ((aD yG yA).f5)))) else (none)) else (none)) else (some 0)
def aM.j1 : Nat → Int → List (S98) → Int → Int → Bool → Int → List (S98) → ByteArray → ByteArray → ByteArray → Int → Int → List (S100) → Option (Int)
 | 0,_,_,_,_,_,_,_,_,_,_,_,_,_=>none
 | k + 1,x3,yG,BI,yA,x18,yc,xZ,yu,yB,yC,yw,yt,yx=>if x18 = true then (some 13) else (if x3 > 0 then (if 0 ≤ (wrap64 (x3 - 1)) then (if (wrap64 (x3 - 1)) < (xZ.length : Int) then (aM.j2 k yG BI yA (!(Op.bytesLess (((aD xZ (wrap64 (x3 - 1))).f0).toList) yu.toList)) yc xZ yu yB yC yw yt yx) else (none)) else (none)) else (aM.j2 k yG BI yA false yc xZ yu yB yC yw yt yx))
def aM.j2 : Nat → List (S98) → Int → Int → Bool → Int → List (S98) → ByteArray → ByteArray → ByteArray → Int → Int → List (S100) → Option (Int)
 | 0,_,_,_,_,_,_,_,_,_,_,_,_=>none
 | k + 1,yG,BI,yA,EZ,yc,xZ,yu,yB,yC,yw,yt,yx=>if EZ = true then (some 6) else (if yw > 2 then (aM.j3 k yG BI yA true yc xZ yu yB yC yw yt yx) else (if yt < 1 then (aM.j3 k yG BI yA true yc xZ yu yB yC yw yt yx) else (aM.j3 k yG BI yA (decide (yt > 3600)) yc xZ yu yB yC yw yt yx)))
def aM.j3 : Nat → List (S98) → Int → Int → Bool → Int → List (S98) → ByteArray → ByteArray → ByteArray → Int → Int → List (S100) → Option (Int)
 | 0,_,_,_,_,_,_,_,_,_,_,_,_=>none
 | k + 1,yG,BI,yA,E5,yc,xZ,yu,yB,yC,yw,yt,yx=>if E5 = true then (some 7) else ((bX.f k yx).bind fun t146=>(if t146 = 0 then (aM.l0 k yG BI (wrap64 (yA + 1)) yc xZ) else (some t146)))
end
def aM.f (k : Nat) (xQ : Int) (xJ : List (S98)) : Option (Int):=if (xJ.length : Int) > 1024 then (some 18) else (aM.l0 k xJ (xJ.length : Int) 0 xQ xJ)
theorem aM.dO : ∀ k,(∀ y0 y1 y2 y3 y4,LeO (aM.l0 k y0 y1 y2 y3 y4) (aM.l0 (k + 1) y0 y1 y2 y3 y4)) ∧ (∀ y0 y1 y2 y3 y4 y5 y6 y7 y8 y9 BL BM Ep,LeO (aM.j1 k y0 y1 y2 y3 y4 y5 y6 y7 y8 y9 BL BM Ep) (aM.j1 (k + 1) y0 y1 y2 y3 y4 y5 y6 y7 y8 y9 BL BM Ep)) ∧ (∀ y0 y1 y2 y3 y4 y5 y6 y7 y8 y9 BL BM,LeO (aM.j2 k y0 y1 y2 y3 y4 y5 y6 y7 y8 y9 BL BM) (aM.j2 (k + 1) y0 y1 y2 y3 y4 y5 y6 y7 y8 y9 BL BM)) ∧ (∀ y0 y1 y2 y3 y4 y5 y6 y7 y8 y9 BL BM,LeO (aM.j3 k y0 y1 y2 y3 y4 y5 y6 y7 y8 y9 BL BM) (aM.j3 (k + 1) y0 y1 y2 y3 y4 y5 y6 y7 y8 y9 BL BM))
 | 0=>⟨fun _ _ _ _ _ r h=>by simp [aM.l0] at h,fun _ _ _ _ _ _ _ _ _ _ _ _ _ r h=>by simp [aM.j1] at h,fun _ _ _ _ _ _ _ _ _ _ _ _ r h=>by simp [aM.j2] at h,fun _ _ _ _ _ _ _ _ _ _ _ _ r h=>by simp [aM.j3] at h⟩
 | k + 1=>by
  obtain ⟨BN,ih1,ih2,ih3⟩:=aM.dO k
  refine ⟨?_,?_,?_,?_⟩
  ·intro y0 y1 y2 y3 y4
   unfold aM.l0
   repeat' first
   | (with_reducible exact BN _ _ _ _ _)
   | (with_reducible exact ih1 _ _ _ _ _ _ _ _ _ _ _ _ _)
   | (with_reducible exact ih2 _ _ _ _ _ _ _ _ _ _ _ _)
   | (with_reducible exact ih3 _ _ _ _ _ _ _ _ _ _ _ _)
   | (with_reducible exact bQ.mono _ _)
   | (with_reducible exact bX.mono _ _)
   | (with_reducible exact aX.mono _ _)
   | (with_reducible exact dG.mono _ _)
   | (with_reducible exact LeO.refl _)
   | (with_reducible exact LeO.none _)
   | (with_reducible refine LeO.ite ?_ ?_)
   | (with_reducible refine LeO.bind ?_ (fun _=>?_))
   | exact BN _ _ _ _ _
   | exact ih1 _ _ _ _ _ _ _ _ _ _ _ _ _
   | exact ih2 _ _ _ _ _ _ _ _ _ _ _ _
   | exact ih3 _ _ _ _ _ _ _ _ _ _ _ _
   | exact bQ.mono _ _
   | exact bX.mono _ _
   | exact aX.mono _ _
   | exact dG.mono _ _
   | exact LeO.none _
   | refine LeO.ite ?_ ?_
   | refine LeO.bind ?_ (fun _=>?_)
  ·intro y0 y1 y2 y3 y4 y5 y6 y7 y8 y9 BL BM Ep
   unfold aM.j1
   repeat' first
   | (with_reducible exact BN _ _ _ _ _)
   | (with_reducible exact ih1 _ _ _ _ _ _ _ _ _ _ _ _ _)
   | (with_reducible exact ih2 _ _ _ _ _ _ _ _ _ _ _ _)
   | (with_reducible exact ih3 _ _ _ _ _ _ _ _ _ _ _ _)
   | (with_reducible exact bQ.mono _ _)
   | (with_reducible exact bX.mono _ _)
   | (with_reducible exact aX.mono _ _)
   | (with_reducible exact dG.mono _ _)
   | (with_reducible exact LeO.refl _)
   | (with_reducible exact LeO.none _)
   | (with_reducible refine LeO.ite ?_ ?_)
   | (with_reducible refine LeO.bind ?_ (fun _=>?_))
   | exact BN _ _ _ _ _
   | exact ih1 _ _ _ _ _ _ _ _ _ _ _ _ _
   | exact ih2 _ _ _ _ _ _ _ _ _ _ _ _
   | exact ih3 _ _ _ _ _ _ _ _ _ _ _ _
   | exact bQ.mono _ _
   | exact bX.mono _ _
   | exact aX.mono _ _
   | exact dG.mono _ _
   | exact LeO.none _
   | refine LeO.ite ?_ ?_
   | refine LeO.bind ?_ (fun _=>?_)
  ·intro y0 y1 y2 y3 y4 y5 y6 y7 y8 y9 BL BM
   unfold aM.j2
   repeat' first
   | (with_reducible exact BN _ _ _ _ _)
   | (with_reducible exact ih1 _ _ _ _ _ _ _ _ _ _ _ _ _)
   | (with_reducible exact ih2 _ _ _ _ _ _ _ _ _ _ _ _)
   | (with_reducible exact ih3 _ _ _ _ _ _ _ _ _ _ _ _)
   | (with_reducible exact bQ.mono _ _)
   | (with_reducible exact bX.mono _ _)
   | (with_reducible exact aX.mono _ _)
   | (with_reducible exact dG.mono _ _)
   | (with_reducible exact LeO.refl _)
   | (with_reducible exact LeO.none _)
   | (with_reducible refine LeO.ite ?_ ?_)
   | (with_reducible refine LeO.bind ?_ (fun _=>?_))
   | exact BN _ _ _ _ _
   | exact ih1 _ _ _ _ _ _ _ _ _ _ _ _ _
   | exact ih2 _ _ _ _ _ _ _ _ _ _ _ _
   | exact ih3 _ _ _ _ _ _ _ _ _ _ _ _
   | exact bQ.mono _ _
   | exact bX.mono _ _
   | exact aX.mono _ _
   | exact dG.mono _ _
   | exact LeO.none _
   | refine LeO.ite ?_ ?_
   | refine LeO.bind ?_ (fun _=>?_)
  ·intro y0 y1 y2 y3 y4 y5 y6 y7 y8 y9 BL BM
   unfold aM.j3
   repeat' first
   | (with_reducible exact BN _ _ _ _ _)
   | (with_reducible exact ih1 _ _ _ _ _ _ _ _ _ _ _ _ _)
   | (with_reducible exact ih2 _ _ _ _ _ _ _ _ _ _ _ _)
   | (with_reducible exact ih3 _ _ _ _ _ _ _ _ _ _ _ _)
   | (with_reducible exact bQ.mono _ _)
   | (with_reducible exact bX.mono _ _)
   | (with_reducible exact aX.mono _ _)
   | (with_reducible exact dG.mono _ _)
   | (with_reducible exact LeO.refl _)
   | (with_reducible exact LeO.none _)
   | (with_reducible refine LeO.ite ?_ ?_)
   | (with_reducible refine LeO.bind ?_ (fun _=>?_))
   | exact BN _ _ _ _ _
   | exact ih1 _ _ _ _ _ _ _ _ _ _ _ _ _
   | exact ih2 _ _ _ _ _ _ _ _ _ _ _ _
   | exact ih3 _ _ _ _ _ _ _ _ _ _ _ _
   | exact bQ.mono _ _
   | exact bX.mono _ _
   | exact aX.mono _ _
   | exact dG.mono _ _
   | exact LeO.none _
   | refine LeO.ite ?_ ?_
   | refine LeO.bind ?_ (fun _=>?_)
theorem aM.mono : ∀ a0 a1 k,LeO (aM.f k a0 a1) (aM.f (k + 1) a0 a1):=by
 intro a0 a1 k
 obtain ⟨BN,ih1,ih2,ih3⟩:=aM.dO k
 unfold aM.f
 repeat' first
   | (with_reducible exact BN _ _ _ _ _)
   | (with_reducible exact ih1 _ _ _ _ _ _ _ _ _ _ _ _ _)
   | (with_reducible exact ih2 _ _ _ _ _ _ _ _ _ _ _ _)
   | (with_reducible exact ih3 _ _ _ _ _ _ _ _ _ _ _ _)
   | (with_reducible exact bQ.mono _ _)
   | (with_reducible exact bX.mono _ _)
   | (with_reducible exact aX.mono _ _)
   | (with_reducible exact dG.mono _ _)
   | (with_reducible exact LeO.refl _)
   | (with_reducible exact LeO.none _)
   | (with_reducible refine LeO.ite ?_ ?_)
   | (with_reducible refine LeO.bind ?_ (fun _=>?_))
   | exact BN _ _ _ _ _
   | exact ih1 _ _ _ _ _ _ _ _ _ _ _ _ _
   | exact ih2 _ _ _ _ _ _ _ _ _ _ _ _
   | exact ih3 _ _ _ _ _ _ _ _ _ _ _ _
   | exact bQ.mono _ _
   | exact bX.mono _ _
   | exact aX.mono _ _
   | exact dG.mono _ _
   | exact LeO.none _
   | refine LeO.ite ?_ ?_
   | refine LeO.bind ?_ (fun _=>?_)
set_option maxHeartbeats 8000000 in
set_option maxRecDepth 100000 in
theorem aM.calls (k : Nat) (xQ : Int) (yQ : Option Addr) (xX : Nat) (xJ : List (S98)) (r : Int) (w : World) (C8 : Kd.C k98 w yQ xJ.length xJ) (C9 : xJ.length ≤ xX) (h : aM.f k xQ xJ = some r) :
  Calls Tryd.prog 27 #[.agg #[.int .u64 xQ,.slice yQ xJ.length xX]] w fun e w'=>e = .returned (.int .i64 r) ∧ Below w.heap.size w w':=by
 have E8:=Tryd.underlying49
 have E9:=Tryd.underlying98
 have Da:=Aside0.mk C8
 have Ey:=Aside0.mk C9
 clear C8 C9
 have HB:=Aside0.mk (Below.refl w.heap.size w)
 have H : (if (xJ.length : Int) > 1024 then (some 18) else (aM.l0 k xJ (xJ.length : Int) 0 xQ xJ)) = some r:=h
 clear h
 by_cases c2 : (xJ.length : Int) > 1024
 ·rw [if_pos c2] at H
  have c2b0 : decide (1024 < (xJ.length : Int)) = true:=decide_eq_true c2
  have c2b1 : decide (1024 < xJ.length) = true:=decide_eq_true (by omega)
  clear c2
  obtain rfl:=Option.some.inj H
  go_enter Tryd.func27,Tryd.ntmps27
  go_wp2_with (first|((with_reducible refine dN (N:=1) rfl ?_);refine dK ?hg (N:=1) ?hd (cs:=#[.int .u64 xQ,.slice yQ xJ.length xX]) (t:=49) ?hr ?_;(case hd=>rfl);(case hg=>rfl);(case hr=>first|(go_simp;done)|(go_simp;rfl));intro xP hg w3 hbox hb;have yg:=Aside0.mk (aQ (by repeat (first|(with_reducible first|exact HB.out|apply ay|apply aj|apply av)|exact HB.out)) hb);have yh:=Aside0.mk (hbox);have yj:=Aside0.mk ((by rw [hg];exact (aV (by repeat (first|(with_reducible first|exact HB.out|apply ay|apply aj|apply av)|exact HB.out))) : w.heap.size ≤ xP));have zQ:=Aside0.mk ((by rw [hg];exact (aV (by repeat (first|(with_reducible first|exact HB.out|apply ay|apply aj|apply av)|exact HB.out))) : w.heap.size ≤ xP));clear HB;have HB:=yg;have xO:=yh;have AX:=yj;have xR:=zQ;clear yg yh yj zQ;clear hb hbox hg;have zI : w3.cell? ⟨xP,0,none⟩ = some (.int .u64 xQ):=(au xO.out 0).trans rfl;have zJ : w3.cell? ⟨xP,1,none⟩ = some (.slice yQ xJ.length xX):=(au xO.out 1).trans rfl;have zK:=aH xO.out 0;have zL:=aH xO.out 1))
  repeat (go_quiet (first|((with_reducible refine dN (N:=1) rfl ?_);refine dK ?hg (N:=1) ?hd (cs:=#[.int .u64 xQ,.slice yQ xJ.length xX]) (t:=49) ?hr ?_;(case hd=>rfl);(case hg=>rfl);(case hr=>first|(go_simp;done)|(go_simp;rfl));intro xP hg w3 hbox hb;have yg:=Aside0.mk (aQ (by repeat (first|(with_reducible first|exact HB.out|apply ay|apply aj|apply av)|exact HB.out)) hb);have yh:=Aside0.mk (hbox);have yj:=Aside0.mk ((by rw [hg];exact (aV (by repeat (first|(with_reducible first|exact HB.out|apply ay|apply aj|apply av)|exact HB.out))) : w.heap.size ≤ xP));have zQ:=Aside0.mk ((by rw [hg];exact (aV (by repeat (first|(with_reducible first|exact HB.out|apply ay|apply aj|apply av)|exact HB.out))) : w.heap.size ≤ xP));clear HB;have HB:=yg;have xO:=yh;have AX:=yj;have xR:=zQ;clear yg yh yj zQ;clear hb hbox hg;have zI : w3.cell? ⟨xP,0,none⟩ = some (.int .u64 xQ):=(au xO.out 0).trans rfl;have zJ : w3.cell? ⟨xP,1,none⟩ = some (.slice yQ xJ.length xX):=(au xO.out 1).trans rfl;have zK:=aH xO.out 0;have zL:=aH xO.out 1));try go_wp2_with (first|((with_reducible refine dN (N:=1) rfl ?_);refine dK ?hg (N:=1) ?hd (cs:=#[.int .u64 xQ,.slice yQ xJ.length xX]) (t:=49) ?hr ?_;(case hd=>rfl);(case hg=>rfl);(case hr=>first|(go_simp;done)|(go_simp;rfl));intro xP hg w3 hbox hb;have yg:=Aside0.mk (aQ (by repeat (first|(with_reducible first|exact HB.out|apply ay|apply aj|apply av)|exact HB.out)) hb);have yh:=Aside0.mk (hbox);have yj:=Aside0.mk ((by rw [hg];exact (aV (by repeat (first|(with_reducible first|exact HB.out|apply ay|apply aj|apply av)|exact HB.out))) : w.heap.size ≤ xP));have zQ:=Aside0.mk ((by rw [hg];exact (aV (by repeat (first|(with_reducible first|exact HB.out|apply ay|apply aj|apply av)|exact HB.out))) : w.heap.size ≤ xP));clear HB;have HB:=yg;have xO:=yh;have AX:=yj;have xR:=zQ;clear yg yh yj zQ;clear hb hbox hg;have zI : w3.cell? ⟨xP,0,none⟩ = some (.int .u64 xQ):=(au xO.out 0).trans rfl;have zJ : w3.cell? ⟨xP,1,none⟩ = some (.slice yQ xJ.length xX):=(au xO.out 1).trans rfl;have zK:=aH xO.out 0;have zL:=aH xO.out 1)))
  go_ret
  exact ⟨by first|rfl|(simp [aZ,bf] <;> rfl)|(simp [*,aZ,bf] <;> rfl),by repeat (first|(with_reducible first|exact HB.out|apply ay|apply aj|apply av|refine ak ?_ xR.out)|exact HB.out)⟩
 ·rw [if_neg c2] at H
  have c2b0 : decide (1024 < (xJ.length : Int)) = false:=decide_eq_false c2
  have c2b1 : decide (1024 < xJ.length) = false:=decide_eq_false (by omega)
  clear c2
  have H':=Aside0.mk H
  clear H
  go_enter Tryd.func27,Tryd.ntmps27
  go_wp2_with (first|((with_reducible refine dN (N:=1) rfl ?_);refine dK ?hg (N:=1) ?hd (cs:=#[.int .u64 xQ,.slice yQ xJ.length xX]) (t:=49) ?hr ?_;(case hd=>rfl);(case hg=>rfl);(case hr=>first|(go_simp;done)|(go_simp;rfl));intro xP hg w5 hbox hb;have yg:=Aside0.mk (aQ (by repeat (first|(with_reducible first|exact HB.out|apply ay|apply aj|apply av)|exact HB.out)) hb);have yh:=Aside0.mk (hbox);have yj:=Aside0.mk ((by rw [hg];exact (aV (by repeat (first|(with_reducible first|exact HB.out|apply ay|apply aj|apply av)|exact HB.out))) : w.heap.size ≤ xP));have zQ:=Aside0.mk ((by rw [hg];exact (aV (by repeat (first|(with_reducible first|exact HB.out|apply ay|apply aj|apply av)|exact HB.out))) : w.heap.size ≤ xP));clear HB;have HB:=yg;have xO:=yh;have AX:=yj;have xR:=zQ;clear yg yh yj zQ;clear hb hbox hg;have zM : w5.cell? ⟨xP,0,none⟩ = some (.int .u64 xQ):=(au xO.out 0).trans rfl;have zN : w5.cell? ⟨xP,1,none⟩ = some (.slice yQ xJ.length xX):=(au xO.out 1).trans rfl;have zO:=aH xO.out 0;have zP:=aH xO.out 1))
  repeat (go_quiet (first|((with_reducible refine dN (N:=1) rfl ?_);refine dK ?hg (N:=1) ?hd (cs:=#[.int .u64 xQ,.slice yQ xJ.length xX]) (t:=49) ?hr ?_;(case hd=>rfl);(case hg=>rfl);(case hr=>first|(go_simp;done)|(go_simp;rfl));intro xP hg w5 hbox hb;have yg:=Aside0.mk (aQ (by repeat (first|(with_reducible first|exact HB.out|apply ay|apply aj|apply av)|exact HB.out)) hb);have yh:=Aside0.mk (hbox);have yj:=Aside0.mk ((by rw [hg];exact (aV (by repeat (first|(with_reducible first|exact HB.out|apply ay|apply aj|apply av)|exact HB.out))) : w.heap.size ≤ xP));have zQ:=Aside0.mk ((by rw [hg];exact (aV (by repeat (first|(with_reducible first|exact HB.out|apply ay|apply aj|apply av)|exact HB.out))) : w.heap.size ≤ xP));clear HB;have HB:=yg;have xO:=yh;have AX:=yj;have xR:=zQ;clear yg yh yj zQ;clear hb hbox hg;have zM : w5.cell? ⟨xP,0,none⟩ = some (.int .u64 xQ):=(au xO.out 0).trans rfl;have zN : w5.cell? ⟨xP,1,none⟩ = some (.slice yQ xJ.length xX):=(au xO.out 1).trans rfl;have zO:=aH xO.out 0;have zP:=aH xO.out 1));try go_wp2_with (first|((with_reducible refine dN (N:=1) rfl ?_);refine dK ?hg (N:=1) ?hd (cs:=#[.int .u64 xQ,.slice yQ xJ.length xX]) (t:=49) ?hr ?_;(case hd=>rfl);(case hg=>rfl);(case hr=>first|(go_simp;done)|(go_simp;rfl));intro xP hg w5 hbox hb;have yg:=Aside0.mk (aQ (by repeat (first|(with_reducible first|exact HB.out|apply ay|apply aj|apply av)|exact HB.out)) hb);have yh:=Aside0.mk (hbox);have yj:=Aside0.mk ((by rw [hg];exact (aV (by repeat (first|(with_reducible first|exact HB.out|apply ay|apply aj|apply av)|exact HB.out))) : w.heap.size ≤ xP));have zQ:=Aside0.mk ((by rw [hg];exact (aV (by repeat (first|(with_reducible first|exact HB.out|apply ay|apply aj|apply av)|exact HB.out))) : w.heap.size ≤ xP));clear HB;have HB:=yg;have xO:=yh;have AX:=yj;have xR:=zQ;clear yg yh yj zQ;clear hb hbox hg;have zM : w5.cell? ⟨xP,0,none⟩ = some (.int .u64 xQ):=(au xO.out 0).trans rfl;have zN : w5.cell? ⟨xP,1,none⟩ = some (.slice yQ xJ.length xX):=(au xO.out 1).trans rfl;have zO:=aH xO.out 0;have zP:=aH xO.out 1)))
  go_loopg [13] k (fun kq v13 w'=>∃ (xI : Int),v13 = .int .i64 xI ∧ Aside0 (aM.l0 kq xJ (xJ.length : Int) xI xQ xJ = some r) ∧ Aside0 (kq ≤ k) ∧ Aside0 (w'.heap[xP]? = some (.cells #[.int .u64 xQ,(.slice yQ xJ.length xX)] 49 (0,0))) ∧ Aside0 (Below w.heap.size w w'))
  case atStart=>exact ⟨(0),(by first|rfl|(simp;done)|(simp [*];done)),H',⟨Nat.le_refl _⟩,⟨by (with_reducible repeat (first|apply aC|apply aG|apply aA));exact xO.out⟩,⟨by repeat (first|(with_reducible first|exact HB.out|apply ay|apply aj|apply av|refine ak ?_ xR.out)|exact HB.out)⟩⟩
  case round =>
   clear H'
   try clear c2
   try clear c2b0
   try clear c2b1
   try clear p2
   try clear zI
   try clear zJ
   try clear zM
   try clear zN
   try clear zK
   try clear zL
   try clear zO
   try clear zP
   obtain ⟨xI,rfl,HA,BR,xO,HB⟩:=hrel
   cases gk with
   | zero=>exact absurd HA.out (by simp [aM.l0])
   | succ k1 =>
    have H:=HA.out
    clear HA
    simp only [aM.l0] at H
    by_cases c7 : xI < (xJ.length : Int)
    ·rw [if_pos c7] at H
     have c7b0 : decide (xI < (xJ.length : Int)) = true:=decide_eq_true c7
     clear c7
     by_cases c8 : 0 ≤ xI
     ·rw [if_pos c8] at H
      have c8b0 : decide (0 ≤ xI) = true:=decide_eq_true c8
      clear c8
      by_cases c9 : xI < (xJ.length : Int)
      ·rw [if_pos c9] at H
       have c9b0 : decide (xI < (xJ.length : Int)) = true:=decide_eq_true c9
       clear c9
       have Dl:=Aside0.mk H
       clear H
       have BJ : 0 ≤ (xI : Int):=of_decide_eq_true (by first|(with_reducible assumption)|assumption)
       have BK : xI < (xJ.length : Int):=of_decide_eq_true (by first|(with_reducible assumption)|assumption)
       obtain ⟨xY,xU,xV,Er,yH,yI,yJ,yK,yL,yM,AY,AZ⟩:=jD Da.out xI BJ BK
       cases Er
       replace yH:=(HB.out.cell (World.block_lt_of_cell? w _ yH)).trans yH
       replace yI:=(HB.out.cell (World.block_lt_of_cell? w _ yI)).trans yI
       replace yJ:=(HB.out.cell (World.block_lt_of_cell? w _ yJ)).trans yJ
       replace yK:=(HB.out.cell (World.block_lt_of_cell? w _ yK)).trans yK
       replace yL:=(HB.out.cell (World.block_lt_of_cell? w _ yL)).trans yL
       replace yM:=(HB.out.cell (World.block_lt_of_cell? w _ yM)).trans yM
       have yN:=Aside0.mk AZ
       have yO:=Aside0.mk AY
       clear AZ AY
       replace BJ:=eq_true BJ
       replace BK:=eq_true BK
       go_upto_region 6 with (first|((with_reducible refine dN (N:=4) rfl ?_);refine dK ?hg (N:=4) ?hd (cs:=#[.string (⟨#[]⟩ : ByteArray),.string (⟨#[]⟩ : ByteArray),.string (⟨#[]⟩ : ByteArray),.int .u8 0,.int .u16 0,.slice none 0 0]) (t:=98) ?hr ?_;(case hd=>rfl);(case hg=>rfl);(case hr=>first|(go_simp;done)|(go_simp;rfl));intro xM hg yD hbox hb;have yg:=Aside0.mk (aK (g:=xP) (o:=.cells #[.int .u64 xQ,.slice (some xY) xJ.length xX] 49 (0,0)) (bk_ xO.out) hb);have yh:=Aside0.mk (aQ (by repeat (first|(with_reducible first|exact HB.out|apply ay|apply aj|apply av|refine ak ?_ xR.out)|exact HB.out)) hb);have yj:=Aside0.mk (hbox);have zQ:=Aside0.mk ((by rw [hg];exact (aV (by repeat (first|(with_reducible first|exact HB.out|apply ay|apply aj|apply av|refine ak ?_ xR.out)|exact HB.out))) : w.heap.size ≤ xM));have Db:=Aside0.mk ((by rw [hg];exact (aV (by repeat (first|(with_reducible first|exact HB.out|apply ay|apply aj|apply av|refine ak ?_ xR.out)|exact HB.out))) : w.heap.size ≤ xM));have Dc:=Aside0.mk ((by rw [hg];exact Nat.ne_of_lt (bP (g:=xP) (o:=.cells #[.int .u64 xQ,.slice (some xY) xJ.length xX] 49 (0,0)) (bk_ xO.out)) : xP ≠ xM));have Df:=Aside0.mk ((by rw [hg];exact Nat.ne_of_gt (bP (g:=xP) (o:=.cells #[.int .u64 xQ,.slice (some xY) xJ.length xX] 49 (0,0)) (bk_ xO.out)) : xM ≠ xP));clear xO;clear HB;have xO:=yg;have HB:=yh;have xK:=yj;have Dh:=zQ;have xW:=Db;have xL:=Dc;have xS:=Df;clear yg yh yj zQ Db Dc Df;clear hb hbox hg;have Di:=xS.out;have Dj:=xL.out;have yR : yD.cell? ⟨xM,0,none⟩ = some (.string (⟨#[]⟩ : ByteArray)):=(au xK.out 0).trans rfl;have yS : yD.cell? ⟨xM,1,none⟩ = some (.string (⟨#[]⟩ : ByteArray)):=(au xK.out 1).trans rfl;have yT : yD.cell? ⟨xM,2,none⟩ = some (.string (⟨#[]⟩ : ByteArray)):=(au xK.out 2).trans rfl;have yU : yD.cell? ⟨xM,3,none⟩ = some (.int .u8 0):=(au xK.out 3).trans rfl;have yV : yD.cell? ⟨xM,4,none⟩ = some (.int .u16 0):=(au xK.out 4).trans rfl;have yX : yD.cell? ⟨xM,5,none⟩ = some (.slice none 0 0):=(au xK.out 5).trans rfl;have yY:=aH xK.out 0;have yZ:=aH xK.out 1;have za:=aH xK.out 2;have ze:=aH xK.out 3;have zf:=aH xK.out 4;have zh:=aH xK.out 5))
       repeat (go_quiet (first|((with_reducible refine dN (N:=4) rfl ?_);refine dK ?hg (N:=4) ?hd (cs:=#[.string (⟨#[]⟩ : ByteArray),.string (⟨#[]⟩ : ByteArray),.string (⟨#[]⟩ : ByteArray),.int .u8 0,.int .u16 0,.slice none 0 0]) (t:=98) ?hr ?_;(case hd=>rfl);(case hg=>rfl);(case hr=>first|(go_simp;done)|(go_simp;rfl));intro xM hg yD hbox hb;have yg:=Aside0.mk (aK (g:=xP) (o:=.cells #[.int .u64 xQ,.slice (some xY) xJ.length xX] 49 (0,0)) (bk_ xO.out) hb);have yh:=Aside0.mk (aQ (by repeat (first|(with_reducible first|exact HB.out|apply ay|apply aj|apply av|refine ak ?_ xR.out)|exact HB.out)) hb);have yj:=Aside0.mk (hbox);have zQ:=Aside0.mk ((by rw [hg];exact (aV (by repeat (first|(with_reducible first|exact HB.out|apply ay|apply aj|apply av|refine ak ?_ xR.out)|exact HB.out))) : w.heap.size ≤ xM));have Db:=Aside0.mk ((by rw [hg];exact (aV (by repeat (first|(with_reducible first|exact HB.out|apply ay|apply aj|apply av|refine ak ?_ xR.out)|exact HB.out))) : w.heap.size ≤ xM));have Dc:=Aside0.mk ((by rw [hg];exact Nat.ne_of_lt (bP (g:=xP) (o:=.cells #[.int .u64 xQ,.slice (some xY) xJ.length xX] 49 (0,0)) (bk_ xO.out)) : xP ≠ xM));have Df:=Aside0.mk ((by rw [hg];exact Nat.ne_of_gt (bP (g:=xP) (o:=.cells #[.int .u64 xQ,.slice (some xY) xJ.length xX] 49 (0,0)) (bk_ xO.out)) : xM ≠ xP));clear xO;clear HB;have xO:=yg;have HB:=yh;have xK:=yj;have Dh:=zQ;have xW:=Db;have xL:=Dc;have xS:=Df;clear yg yh yj zQ Db Dc Df;clear hb hbox hg;have Di:=xS.out;have Dj:=xL.out;have yR : yD.cell? ⟨xM,0,none⟩ = some (.string (⟨#[]⟩ : ByteArray)):=(au xK.out 0).trans rfl;have yS : yD.cell? ⟨xM,1,none⟩ = some (.string (⟨#[]⟩ : ByteArray)):=(au xK.out 1).trans rfl;have yT : yD.cell? ⟨xM,2,none⟩ = some (.string (⟨#[]⟩ : ByteArray)):=(au xK.out 2).trans rfl;have yU : yD.cell? ⟨xM,3,none⟩ = some (.int .u8 0):=(au xK.out 3).trans rfl;have yV : yD.cell? ⟨xM,4,none⟩ = some (.int .u16 0):=(au xK.out 4).trans rfl;have yX : yD.cell? ⟨xM,5,none⟩ = some (.slice none 0 0):=(au xK.out 5).trans rfl;have yY:=aH xK.out 0;have yZ:=aH xK.out 1;have za:=aH xK.out 2;have ze:=aH xK.out 3;have zf:=aH xK.out 4;have zh:=aH xK.out 5));go_upto_region 6 with (first|((with_reducible refine dN (N:=4) rfl ?_);refine dK ?hg (N:=4) ?hd (cs:=#[.string (⟨#[]⟩ : ByteArray),.string (⟨#[]⟩ : ByteArray),.string (⟨#[]⟩ : ByteArray),.int .u8 0,.int .u16 0,.slice none 0 0]) (t:=98) ?hr ?_;(case hd=>rfl);(case hg=>rfl);(case hr=>first|(go_simp;done)|(go_simp;rfl));intro xM hg yD hbox hb;have yg:=Aside0.mk (aK (g:=xP) (o:=.cells #[.int .u64 xQ,.slice (some xY) xJ.length xX] 49 (0,0)) (bk_ xO.out) hb);have yh:=Aside0.mk (aQ (by repeat (first|(with_reducible first|exact HB.out|apply ay|apply aj|apply av|refine ak ?_ xR.out)|exact HB.out)) hb);have yj:=Aside0.mk (hbox);have zQ:=Aside0.mk ((by rw [hg];exact (aV (by repeat (first|(with_reducible first|exact HB.out|apply ay|apply aj|apply av|refine ak ?_ xR.out)|exact HB.out))) : w.heap.size ≤ xM));have Db:=Aside0.mk ((by rw [hg];exact (aV (by repeat (first|(with_reducible first|exact HB.out|apply ay|apply aj|apply av|refine ak ?_ xR.out)|exact HB.out))) : w.heap.size ≤ xM));have Dc:=Aside0.mk ((by rw [hg];exact Nat.ne_of_lt (bP (g:=xP) (o:=.cells #[.int .u64 xQ,.slice (some xY) xJ.length xX] 49 (0,0)) (bk_ xO.out)) : xP ≠ xM));have Df:=Aside0.mk ((by rw [hg];exact Nat.ne_of_gt (bP (g:=xP) (o:=.cells #[.int .u64 xQ,.slice (some xY) xJ.length xX] 49 (0,0)) (bk_ xO.out)) : xM ≠ xP));clear xO;clear HB;have xO:=yg;have HB:=yh;have xK:=yj;have Dh:=zQ;have xW:=Db;have xL:=Dc;have xS:=Df;clear yg yh yj zQ Db Dc Df;clear hb hbox hg;have Di:=xS.out;have Dj:=xL.out;have yR : yD.cell? ⟨xM,0,none⟩ = some (.string (⟨#[]⟩ : ByteArray)):=(au xK.out 0).trans rfl;have yS : yD.cell? ⟨xM,1,none⟩ = some (.string (⟨#[]⟩ : ByteArray)):=(au xK.out 1).trans rfl;have yT : yD.cell? ⟨xM,2,none⟩ = some (.string (⟨#[]⟩ : ByteArray)):=(au xK.out 2).trans rfl;have yU : yD.cell? ⟨xM,3,none⟩ = some (.int .u8 0):=(au xK.out 3).trans rfl;have yV : yD.cell? ⟨xM,4,none⟩ = some (.int .u16 0):=(au xK.out 4).trans rfl;have yX : yD.cell? ⟨xM,5,none⟩ = some (.slice none 0 0):=(au xK.out 5).trans rfl;have yY:=aH xK.out 0;have yZ:=aH xK.out 1;have za:=aH xK.out 2;have ze:=aH xK.out 3;have zf:=aH xK.out 4;have zh:=aH xK.out 5)))
       (try simp only [Act.put,List.setIfInBounds_toArray,List.set_cons_zero,List.set_cons_succ])
       go_cut [18] (fun v18 wc=>∃ (kq : Nat) (A9 : Bool),v18 = .bool A9 ∧ Aside0 (aM.j1 kq xI xJ (xJ.length : Int) xI A9 xQ xJ ((aD xJ xI).f0) ((aD xJ xI).f1) ((aD xJ xI).f2) ((aD xJ xI).f3) ((aD xJ xI).f4) ((aD xJ xI).f5) = some r) ∧ Aside0 (kq ≤ k1) ∧ Aside0 (wc.heap[xP]? = some (.cells #[.int .u64 xQ,(.slice (some xY) xJ.length xX)] 49 (0,0))) ∧ Aside0 (wc.heap[xM]? = some (.cells #[.string ((aD xJ xI).f0),.string ((aD xJ xI).f1),.string ((aD xJ xI).f2),.int .u8 ((aD xJ xI).f3),.int .u16 ((aD xJ xI).f4),(.slice xU ((aD xJ xI).f5).length xV)] 98 (0,0))) ∧ Aside0 (Below w.heap.size w wc))
       case first =>
        have H:=Dl.out
        clear Dl
        replace H:=Option.bind_eq_some_iff.mp H
        obtain ⟨BS,Dw,H⟩:=H
        replace H : (if BS = true then ((dG.f k1 ((aD xJ xI).f1)).bind fun t143=>(if t143 = true then ((aX.f k1 ((aD xJ xI).f2)).bind fun yP=>(aM.j1 k1 xI xJ (xJ.length : Int) xI (!yP) xQ xJ ((aD xJ xI).f0) ((aD xJ xI).f1) ((aD xJ xI).f2) ((aD xJ xI).f3) ((aD xJ xI).f4) ((aD xJ xI).f5))) else (aM.j1 k1 xI xJ (xJ.length : Int) xI true xQ xJ ((aD xJ xI).f0) ((aD xJ xI).f1) ((aD xJ xI).f2) ((aD xJ xI).f3) ((aD xJ xI).f4) ((aD xJ xI).f5)))) else (aM.j1 k1 xI xJ (xJ.length : Int) xI true xQ xJ ((aD xJ xI).f0) ((aD xJ xI).f1) ((aD xJ xI).f2) ((aD xJ xI).f3) ((aD xJ xI).f4) ((aD xJ xI).f5))) = some r:=H
        have BU:=Aside0.mk Dw
        clear Dw
        by_cases c15 : BS = true
        ·subst c15
         have H1 : ((dG.f k1 ((aD xJ xI).f1)).bind fun t143=>(if t143 = true then ((aX.f k1 ((aD xJ xI).f2)).bind fun yP=>(aM.j1 k1 xI xJ (xJ.length : Int) xI (!yP) xQ xJ ((aD xJ xI).f0) ((aD xJ xI).f1) ((aD xJ xI).f2) ((aD xJ xI).f3) ((aD xJ xI).f4) ((aD xJ xI).f5))) else (aM.j1 k1 xI xJ (xJ.length : Int) xI true xQ xJ ((aD xJ xI).f0) ((aD xJ xI).f1) ((aD xJ xI).f2) ((aD xJ xI).f3) ((aD xJ xI).f4) ((aD xJ xI).f5)))) = some r:=by rw [if_pos rfl] at H;exact H
         clear H
         have H:=H1
         clear H1
         replace H:=Option.bind_eq_some_iff.mp H
         obtain ⟨t143,Dx,H⟩:=H
         replace H : (if t143 = true then ((aX.f k1 ((aD xJ xI).f2)).bind fun yP=>(aM.j1 k1 xI xJ (xJ.length : Int) xI (!yP) xQ xJ ((aD xJ xI).f0) ((aD xJ xI).f1) ((aD xJ xI).f2) ((aD xJ xI).f3) ((aD xJ xI).f4) ((aD xJ xI).f5))) else (aM.j1 k1 xI xJ (xJ.length : Int) xI true xQ xJ ((aD xJ xI).f0) ((aD xJ xI).f1) ((aD xJ xI).f2) ((aD xJ xI).f3) ((aD xJ xI).f4) ((aD xJ xI).f5))) = some r:=H
         have Dt:=Aside0.mk Dx
         clear Dx
         by_cases c17 : t143 = true
         ·subst c17
          have H1 : ((aX.f k1 ((aD xJ xI).f2)).bind fun yP=>(aM.j1 k1 xI xJ (xJ.length : Int) xI (!yP) xQ xJ ((aD xJ xI).f0) ((aD xJ xI).f1) ((aD xJ xI).f2) ((aD xJ xI).f3) ((aD xJ xI).f4) ((aD xJ xI).f5))) = some r:=by rw [if_pos rfl] at H;exact H
          clear H
          have H:=H1
          clear H1
          replace H:=Option.bind_eq_some_iff.mp H
          obtain ⟨yP,Dy,H⟩:=H
          replace H : (aM.j1 k1 xI xJ (xJ.length : Int) xI (!yP) xQ xJ ((aD xJ xI).f0) ((aD xJ xI).f1) ((aD xJ xI).f2) ((aD xJ xI).f3) ((aD xJ xI).f4) ((aD xJ xI).f5)) = some r:=H
          have Es:=Aside0.mk Dy
          clear Dy
          have H':=Aside0.mk H
          clear H
          have Ez:=xS.out
          have EA:=xL.out
          have zU : yD.cell? ⟨xM,0,none⟩ = some (.string (⟨#[]⟩ : ByteArray)):=(au xK.out 0).trans rfl
          have zV : yD.cell? ⟨xM,1,none⟩ = some (.string (⟨#[]⟩ : ByteArray)):=(au xK.out 1).trans rfl
          have zW : yD.cell? ⟨xM,2,none⟩ = some (.string (⟨#[]⟩ : ByteArray)):=(au xK.out 2).trans rfl
          have zX : yD.cell? ⟨xM,3,none⟩ = some (.int .u8 0):=(au xK.out 3).trans rfl
          have zY : yD.cell? ⟨xM,4,none⟩ = some (.int .u16 0):=(au xK.out 4).trans rfl
          have zZ : yD.cell? ⟨xM,5,none⟩ = some (.slice none 0 0):=(au xK.out 5).trans rfl
          have z8:=aH xK.out 0
          have Aa:=aH xK.out 1
          have Ab:=aH xK.out 2
          have Ac:=aH xK.out 3
          have Ad:=aH xK.out 4
          have Ae:=aH xK.out 5
          go_wp2_with (first|(go_at_call 18;(with_reducible refine (bQ.calls k1 ((aD xJ xI).f0) true _ BU.out).mono ?_);rintro e w' ⟨rfl,⟨nd,rfl⟩⟩;(try first|exact ⟨rfl,_,World.drewN_drewN _ _ _⟩|exact ⟨rfl,_,Eq.trans (World.drewN_drewN _ _ _) (congrArg (World.drewN _) (Nat.add_assoc _ _ _))⟩))|(go_at_call 41;(with_reducible refine (dG.calls k1 ((aD xJ xI).f1) true _ Dt.out).mono ?_);rintro e zT ⟨rfl,hb⟩;have yg:=Aside0.mk (aK (g:=xP) (o:=.cells #[.int .u64 xQ,.slice (some xY) xJ.length xX] 49 (0,0)) (by (with_reducible repeat (first|apply aC|apply aG|apply aA));refine aU ?_ xL.out _;(with_reducible repeat (first|apply aC|apply aG|apply aA));refine aU ?_ xL.out _;(with_reducible repeat (first|apply aC|apply aG|apply aA));refine aU ?_ xL.out _;(with_reducible repeat (first|apply aC|apply aG|apply aA));refine aU ?_ xL.out _;(with_reducible repeat (first|apply aC|apply aG|apply aA));refine aU ?_ xL.out _;(with_reducible repeat (first|apply aC|apply aG|apply aA));refine aU ?_ xL.out _;(with_reducible repeat (first|apply aC|apply aG|apply aA));exact xO.out) hb);have yh:=Aside0.mk (aK (g:=xM) (o:=.cells #[.string ((aD xJ xI).f0),.string ((aD xJ xI).f1),.string ((aD xJ xI).f2),.int .u8 ((aD xJ xI).f3),.int .u16 ((aD xJ xI).f4),.slice xU ((aD xJ xI).f5).length xV] 98 (0,0)) (by (with_reducible repeat (first|apply aC|apply aG|apply aA));refine bE (cs:=#[.string ((aD xJ xI).f0),.string ((aD xJ xI).f1),.string ((aD xJ xI).f2),.int .u8 ((aD xJ xI).f3),.int .u16 ((aD xJ xI).f4),.slice none 0 0]) ?_ 5 _ rfl;(with_reducible repeat (first|apply aC|apply aG|apply aA));refine bE (cs:=#[.string ((aD xJ xI).f0),.string ((aD xJ xI).f1),.string ((aD xJ xI).f2),.int .u8 ((aD xJ xI).f3),.int .u16 0,.slice none 0 0]) ?_ 4 _ rfl;(with_reducible repeat (first|apply aC|apply aG|apply aA));refine bE (cs:=#[.string ((aD xJ xI).f0),.string ((aD xJ xI).f1),.string ((aD xJ xI).f2),.int .u8 0,.int .u16 0,.slice none 0 0]) ?_ 3 _ rfl;(with_reducible repeat (first|apply aC|apply aG|apply aA));refine bE (cs:=#[.string ((aD xJ xI).f0),.string ((aD xJ xI).f1),.string (⟨#[]⟩ : ByteArray),.int .u8 0,.int .u16 0,.slice none 0 0]) ?_ 2 _ rfl;(with_reducible repeat (first|apply aC|apply aG|apply aA));refine bE (cs:=#[.string ((aD xJ xI).f0),.string (⟨#[]⟩ : ByteArray),.string (⟨#[]⟩ : ByteArray),.int .u8 0,.int .u16 0,.slice none 0 0]) ?_ 1 _ rfl;(with_reducible repeat (first|apply aC|apply aG|apply aA));refine bE (cs:=#[.string (⟨#[]⟩ : ByteArray),.string (⟨#[]⟩ : ByteArray),.string (⟨#[]⟩ : ByteArray),.int .u8 0,.int .u16 0,.slice none 0 0]) ?_ 0 _ rfl;(with_reducible repeat (first|apply aC|apply aG|apply aA));exact xK.out) hb);have yj:=Aside0.mk (aQ (by repeat (first|(with_reducible first|exact HB.out|apply ay|apply aj|apply av|refine ak ?_ xR.out|refine ak ?_ xW.out)|exact HB.out)) hb);clear xO;clear xK;clear HB;have xO:=yg;have xK:=yh;have HB:=yj;clear yg yh yj;(try clear hb);(try clear hb2);(try clear hk);(try clear hi);have zi : zT.cell? ⟨xM,0,none⟩ = some (.string ((aD xJ xI).f0)):=(au xK.out 0).trans rfl;have zk : zT.cell? ⟨xM,1,none⟩ = some (.string ((aD xJ xI).f1)):=(au xK.out 1).trans rfl;have zl : zT.cell? ⟨xM,2,none⟩ = some (.string ((aD xJ xI).f2)):=(au xK.out 2).trans rfl;have zm : zT.cell? ⟨xM,3,none⟩ = some (.int .u8 ((aD xJ xI).f3)):=(au xK.out 3).trans rfl;have zn : zT.cell? ⟨xM,4,none⟩ = some (.int .u16 ((aD xJ xI).f4)):=(au xK.out 4).trans rfl;have zo : zT.cell? ⟨xM,5,none⟩ = some (.slice xU ((aD xJ xI).f5).length xV):=(au xK.out 5).trans rfl;have zq:=aH xK.out 0;have zu:=aH xK.out 1;have zw:=aH xK.out 2;have zx:=aH xK.out 3;have zy:=aH xK.out 4;have zA:=aH xK.out 5)|(go_at_call 56;(with_reducible refine (aX.calls k1 ((aD xJ xI).f2) yP _ Es.out).mono ?_);rintro e w' ⟨rfl,⟨nd,rfl⟩⟩;(try first|exact ⟨rfl,_,World.drewN_drewN _ _ _⟩|exact ⟨rfl,_,Eq.trans (World.drewN_drewN _ _ _) (congrArg (World.drewN _) (Nat.add_assoc _ _ _))⟩)))
          repeat (go_quiet (first|(go_at_call 18;(with_reducible refine (bQ.calls k1 ((aD xJ xI).f0) true _ BU.out).mono ?_);rintro e w' ⟨rfl,⟨nd,rfl⟩⟩;(try first|exact ⟨rfl,_,World.drewN_drewN _ _ _⟩|exact ⟨rfl,_,Eq.trans (World.drewN_drewN _ _ _) (congrArg (World.drewN _) (Nat.add_assoc _ _ _))⟩))|(go_at_call 41;(with_reducible refine (dG.calls k1 ((aD xJ xI).f1) true _ Dt.out).mono ?_);rintro e zT ⟨rfl,hb⟩;have yg:=Aside0.mk (aK (g:=xP) (o:=.cells #[.int .u64 xQ,.slice (some xY) xJ.length xX] 49 (0,0)) (by (with_reducible repeat (first|apply aC|apply aG|apply aA));refine aU ?_ xL.out _;(with_reducible repeat (first|apply aC|apply aG|apply aA));refine aU ?_ xL.out _;(with_reducible repeat (first|apply aC|apply aG|apply aA));refine aU ?_ xL.out _;(with_reducible repeat (first|apply aC|apply aG|apply aA));refine aU ?_ xL.out _;(with_reducible repeat (first|apply aC|apply aG|apply aA));refine aU ?_ xL.out _;(with_reducible repeat (first|apply aC|apply aG|apply aA));refine aU ?_ xL.out _;(with_reducible repeat (first|apply aC|apply aG|apply aA));exact xO.out) hb);have yh:=Aside0.mk (aK (g:=xM) (o:=.cells #[.string ((aD xJ xI).f0),.string ((aD xJ xI).f1),.string ((aD xJ xI).f2),.int .u8 ((aD xJ xI).f3),.int .u16 ((aD xJ xI).f4),.slice xU ((aD xJ xI).f5).length xV] 98 (0,0)) (by (with_reducible repeat (first|apply aC|apply aG|apply aA));refine bE (cs:=#[.string ((aD xJ xI).f0),.string ((aD xJ xI).f1),.string ((aD xJ xI).f2),.int .u8 ((aD xJ xI).f3),.int .u16 ((aD xJ xI).f4),.slice none 0 0]) ?_ 5 _ rfl;(with_reducible repeat (first|apply aC|apply aG|apply aA));refine bE (cs:=#[.string ((aD xJ xI).f0),.string ((aD xJ xI).f1),.string ((aD xJ xI).f2),.int .u8 ((aD xJ xI).f3),.int .u16 0,.slice none 0 0]) ?_ 4 _ rfl;(with_reducible repeat (first|apply aC|apply aG|apply aA));refine bE (cs:=#[.string ((aD xJ xI).f0),.string ((aD xJ xI).f1),.string ((aD xJ xI).f2),.int .u8 0,.int .u16 0,.slice none 0 0]) ?_ 3 _ rfl;(with_reducible repeat (first|apply aC|apply aG|apply aA));refine bE (cs:=#[.string ((aD xJ xI).f0),.string ((aD xJ xI).f1),.string (⟨#[]⟩ : ByteArray),.int .u8 0,.int .u16 0,.slice none 0 0]) ?_ 2 _ rfl;(with_reducible repeat (first|apply aC|apply aG|apply aA));refine bE (cs:=#[.string ((aD xJ xI).f0),.string (⟨#[]⟩ : ByteArray),.string (⟨#[]⟩ : ByteArray),.int .u8 0,.int .u16 0,.slice none 0 0]) ?_ 1 _ rfl;(with_reducible repeat (first|apply aC|apply aG|apply aA));refine bE (cs:=#[.string (⟨#[]⟩ : ByteArray),.string (⟨#[]⟩ : ByteArray),.string (⟨#[]⟩ : ByteArray),.int .u8 0,.int .u16 0,.slice none 0 0]) ?_ 0 _ rfl;(with_reducible repeat (first|apply aC|apply aG|apply aA));exact xK.out) hb);have yj:=Aside0.mk (aQ (by repeat (first|(with_reducible first|exact HB.out|apply ay|apply aj|apply av|refine ak ?_ xR.out|refine ak ?_ xW.out)|exact HB.out)) hb);clear xO;clear xK;clear HB;have xO:=yg;have xK:=yh;have HB:=yj;clear yg yh yj;(try clear hb);(try clear hb2);(try clear hk);(try clear hi);have zi : zT.cell? ⟨xM,0,none⟩ = some (.string ((aD xJ xI).f0)):=(au xK.out 0).trans rfl;have zk : zT.cell? ⟨xM,1,none⟩ = some (.string ((aD xJ xI).f1)):=(au xK.out 1).trans rfl;have zl : zT.cell? ⟨xM,2,none⟩ = some (.string ((aD xJ xI).f2)):=(au xK.out 2).trans rfl;have zm : zT.cell? ⟨xM,3,none⟩ = some (.int .u8 ((aD xJ xI).f3)):=(au xK.out 3).trans rfl;have zn : zT.cell? ⟨xM,4,none⟩ = some (.int .u16 ((aD xJ xI).f4)):=(au xK.out 4).trans rfl;have zo : zT.cell? ⟨xM,5,none⟩ = some (.slice xU ((aD xJ xI).f5).length xV):=(au xK.out 5).trans rfl;have zq:=aH xK.out 0;have zu:=aH xK.out 1;have zw:=aH xK.out 2;have zx:=aH xK.out 3;have zy:=aH xK.out 4;have zA:=aH xK.out 5)|(go_at_call 56;(with_reducible refine (aX.calls k1 ((aD xJ xI).f2) yP _ Es.out).mono ?_);rintro e w' ⟨rfl,⟨nd,rfl⟩⟩;(try first|exact ⟨rfl,_,World.drewN_drewN _ _ _⟩|exact ⟨rfl,_,Eq.trans (World.drewN_drewN _ _ _) (congrArg (World.drewN _) (Nat.add_assoc _ _ _))⟩)));try go_wp2_with (first|(go_at_call 18;(with_reducible refine (bQ.calls k1 ((aD xJ xI).f0) true _ BU.out).mono ?_);rintro e w' ⟨rfl,⟨nd,rfl⟩⟩;(try first|exact ⟨rfl,_,World.drewN_drewN _ _ _⟩|exact ⟨rfl,_,Eq.trans (World.drewN_drewN _ _ _) (congrArg (World.drewN _) (Nat.add_assoc _ _ _))⟩))|(go_at_call 41;(with_reducible refine (dG.calls k1 ((aD xJ xI).f1) true _ Dt.out).mono ?_);rintro e zT ⟨rfl,hb⟩;have yg:=Aside0.mk (aK (g:=xP) (o:=.cells #[.int .u64 xQ,.slice (some xY) xJ.length xX] 49 (0,0)) (by (with_reducible repeat (first|apply aC|apply aG|apply aA));refine aU ?_ xL.out _;(with_reducible repeat (first|apply aC|apply aG|apply aA));refine aU ?_ xL.out _;(with_reducible repeat (first|apply aC|apply aG|apply aA));refine aU ?_ xL.out _;(with_reducible repeat (first|apply aC|apply aG|apply aA));refine aU ?_ xL.out _;(with_reducible repeat (first|apply aC|apply aG|apply aA));refine aU ?_ xL.out _;(with_reducible repeat (first|apply aC|apply aG|apply aA));refine aU ?_ xL.out _;(with_reducible repeat (first|apply aC|apply aG|apply aA));exact xO.out) hb);have yh:=Aside0.mk (aK (g:=xM) (o:=.cells #[.string ((aD xJ xI).f0),.string ((aD xJ xI).f1),.string ((aD xJ xI).f2),.int .u8 ((aD xJ xI).f3),.int .u16 ((aD xJ xI).f4),.slice xU ((aD xJ xI).f5).length xV] 98 (0,0)) (by (with_reducible repeat (first|apply aC|apply aG|apply aA));refine bE (cs:=#[.string ((aD xJ xI).f0),.string ((aD xJ xI).f1),.string ((aD xJ xI).f2),.int .u8 ((aD xJ xI).f3),.int .u16 ((aD xJ xI).f4),.slice none 0 0]) ?_ 5 _ rfl;(with_reducible repeat (first|apply aC|apply aG|apply aA));refine bE (cs:=#[.string ((aD xJ xI).f0),.string ((aD xJ xI).f1),.string ((aD xJ xI).f2),.int .u8 ((aD xJ xI).f3),.int .u16 0,.slice none 0 0]) ?_ 4 _ rfl;(with_reducible repeat (first|apply aC|apply aG|apply aA));refine bE (cs:=#[.string ((aD xJ xI).f0),.string ((aD xJ xI).f1),.string ((aD xJ xI).f2),.int .u8 0,.int .u16 0,.slice none 0 0]) ?_ 3 _ rfl;(with_reducible repeat (first|apply aC|apply aG|apply aA));refine bE (cs:=#[.string ((aD xJ xI).f0),.string ((aD xJ xI).f1),.string (⟨#[]⟩ : ByteArray),.int .u8 0,.int .u16 0,.slice none 0 0]) ?_ 2 _ rfl;(with_reducible repeat (first|apply aC|apply aG|apply aA));refine bE (cs:=#[.string ((aD xJ xI).f0),.string (⟨#[]⟩ : ByteArray),.string (⟨#[]⟩ : ByteArray),.int .u8 0,.int .u16 0,.slice none 0 0]) ?_ 1 _ rfl;(with_reducible repeat (first|apply aC|apply aG|apply aA));refine bE (cs:=#[.string (⟨#[]⟩ : ByteArray),.string (⟨#[]⟩ : ByteArray),.string (⟨#[]⟩ : ByteArray),.int .u8 0,.int .u16 0,.slice none 0 0]) ?_ 0 _ rfl;(with_reducible repeat (first|apply aC|apply aG|apply aA));exact xK.out) hb);have yj:=Aside0.mk (aQ (by repeat (first|(with_reducible first|exact HB.out|apply ay|apply aj|apply av|refine ak ?_ xR.out|refine ak ?_ xW.out)|exact HB.out)) hb);clear xO;clear xK;clear HB;have xO:=yg;have xK:=yh;have HB:=yj;clear yg yh yj;(try clear hb);(try clear hb2);(try clear hk);(try clear hi);have zi : zT.cell? ⟨xM,0,none⟩ = some (.string ((aD xJ xI).f0)):=(au xK.out 0).trans rfl;have zk : zT.cell? ⟨xM,1,none⟩ = some (.string ((aD xJ xI).f1)):=(au xK.out 1).trans rfl;have zl : zT.cell? ⟨xM,2,none⟩ = some (.string ((aD xJ xI).f2)):=(au xK.out 2).trans rfl;have zm : zT.cell? ⟨xM,3,none⟩ = some (.int .u8 ((aD xJ xI).f3)):=(au xK.out 3).trans rfl;have zn : zT.cell? ⟨xM,4,none⟩ = some (.int .u16 ((aD xJ xI).f4)):=(au xK.out 4).trans rfl;have zo : zT.cell? ⟨xM,5,none⟩ = some (.slice xU ((aD xJ xI).f5).length xV):=(au xK.out 5).trans rfl;have zq:=aH xK.out 0;have zu:=aH xK.out 1;have zw:=aH xK.out 2;have zx:=aH xK.out 3;have zy:=aH xK.out 4;have zA:=aH xK.out 5)|(go_at_call 56;(with_reducible refine (aX.calls k1 ((aD xJ xI).f2) yP _ Es.out).mono ?_);rintro e w' ⟨rfl,⟨nd,rfl⟩⟩;(try first|exact ⟨rfl,_,World.drewN_drewN _ _ _⟩|exact ⟨rfl,_,Eq.trans (World.drewN_drewN _ _ _) (congrArg (World.drewN _) (Nat.add_assoc _ _ _))⟩))))
          go_meet
          case rel=>exact ⟨_,(!yP),(by first|rfl|(simp;done)|(simp [*];done)),H',⟨by have:=BR.out;first|omega|exact Nat.le_refl _⟩,⟨by (with_reducible repeat (first|apply aC|apply aG|apply aA));exact xO.out⟩,⟨by (with_reducible repeat (first|apply aC|apply aG|apply aA));exact xK.out⟩,⟨by repeat (first|(with_reducible first|exact HB.out|apply ay|apply aj|apply av|refine ak ?_ xR.out|refine ak ?_ xW.out)|exact HB.out)⟩⟩
         ·replace c17:=Bool.eq_false_iff.mpr c17
          subst c17
          have H1 : (aM.j1 k1 xI xJ (xJ.length : Int) xI true xQ xJ ((aD xJ xI).f0) ((aD xJ xI).f1) ((aD xJ xI).f2) ((aD xJ xI).f3) ((aD xJ xI).f4) ((aD xJ xI).f5)) = some r:=by rw [if_neg (show ¬ (false = true) by decide)] at H;exact H
          clear H
          have H:=H1
          clear H1
          have H':=Aside0.mk H
          clear H
          have EB:=xS.out
          have EC:=xL.out
          have Af : yD.cell? ⟨xM,0,none⟩ = some (.string (⟨#[]⟩ : ByteArray)):=(au xK.out 0).trans rfl
          have Ag : yD.cell? ⟨xM,1,none⟩ = some (.string (⟨#[]⟩ : ByteArray)):=(au xK.out 1).trans rfl
          have Ah : yD.cell? ⟨xM,2,none⟩ = some (.string (⟨#[]⟩ : ByteArray)):=(au xK.out 2).trans rfl
          have Ai : yD.cell? ⟨xM,3,none⟩ = some (.int .u8 0):=(au xK.out 3).trans rfl
          have Aj : yD.cell? ⟨xM,4,none⟩ = some (.int .u16 0):=(au xK.out 4).trans rfl
          have Ak : yD.cell? ⟨xM,5,none⟩ = some (.slice none 0 0):=(au xK.out 5).trans rfl
          have Al:=aH xK.out 0
          have Am:=aH xK.out 1
          have Ao:=aH xK.out 2
          have Ap:=aH xK.out 3
          have Aq:=aH xK.out 4
          have Ar:=aH xK.out 5
          go_wp2_with (first|(go_at_call 18;(with_reducible refine (bQ.calls k1 ((aD xJ xI).f0) true _ BU.out).mono ?_);rintro e w' ⟨rfl,⟨nd,rfl⟩⟩;(try first|exact ⟨rfl,_,World.drewN_drewN _ _ _⟩|exact ⟨rfl,_,Eq.trans (World.drewN_drewN _ _ _) (congrArg (World.drewN _) (Nat.add_assoc _ _ _))⟩))|(go_at_call 41;(with_reducible refine (dG.calls k1 ((aD xJ xI).f1) false _ Dt.out).mono ?_);rintro e ED ⟨rfl,hb⟩;have yg:=Aside0.mk (aK (g:=xP) (o:=.cells #[.int .u64 xQ,.slice (some xY) xJ.length xX] 49 (0,0)) (by (with_reducible repeat (first|apply aC|apply aG|apply aA));refine aU ?_ xL.out _;(with_reducible repeat (first|apply aC|apply aG|apply aA));refine aU ?_ xL.out _;(with_reducible repeat (first|apply aC|apply aG|apply aA));refine aU ?_ xL.out _;(with_reducible repeat (first|apply aC|apply aG|apply aA));refine aU ?_ xL.out _;(with_reducible repeat (first|apply aC|apply aG|apply aA));refine aU ?_ xL.out _;(with_reducible repeat (first|apply aC|apply aG|apply aA));refine aU ?_ xL.out _;(with_reducible repeat (first|apply aC|apply aG|apply aA));exact xO.out) hb);have yh:=Aside0.mk (aK (g:=xM) (o:=.cells #[.string ((aD xJ xI).f0),.string ((aD xJ xI).f1),.string ((aD xJ xI).f2),.int .u8 ((aD xJ xI).f3),.int .u16 ((aD xJ xI).f4),.slice xU ((aD xJ xI).f5).length xV] 98 (0,0)) (by (with_reducible repeat (first|apply aC|apply aG|apply aA));refine bE (cs:=#[.string ((aD xJ xI).f0),.string ((aD xJ xI).f1),.string ((aD xJ xI).f2),.int .u8 ((aD xJ xI).f3),.int .u16 ((aD xJ xI).f4),.slice none 0 0]) ?_ 5 _ rfl;(with_reducible repeat (first|apply aC|apply aG|apply aA));refine bE (cs:=#[.string ((aD xJ xI).f0),.string ((aD xJ xI).f1),.string ((aD xJ xI).f2),.int .u8 ((aD xJ xI).f3),.int .u16 0,.slice none 0 0]) ?_ 4 _ rfl;(with_reducible repeat (first|apply aC|apply aG|apply aA));refine bE (cs:=#[.string ((aD xJ xI).f0),.string ((aD xJ xI).f1),.string ((aD xJ xI).f2),.int .u8 0,.int .u16 0,.slice none 0 0]) ?_ 3 _ rfl;(with_reducible repeat (first|apply aC|apply aG|apply aA));refine bE (cs:=#[.string ((aD xJ xI).f0),.string ((aD xJ xI).f1),.string (⟨#[]⟩ : ByteArray),.int .u8 0,.int .u16 0,.slice none 0 0]) ?_ 2 _ rfl;(with_reducible repeat (first|apply aC|apply aG|apply aA));refine bE (cs:=#[.string ((aD xJ xI).f0),.string (⟨#[]⟩ : ByteArray),.string (⟨#[]⟩ : ByteArray),.int .u8 0,.int .u16 0,.slice none 0 0]) ?_ 1 _ rfl;(with_reducible repeat (first|apply aC|apply aG|apply aA));refine bE (cs:=#[.string (⟨#[]⟩ : ByteArray),.string (⟨#[]⟩ : ByteArray),.string (⟨#[]⟩ : ByteArray),.int .u8 0,.int .u16 0,.slice none 0 0]) ?_ 0 _ rfl;(with_reducible repeat (first|apply aC|apply aG|apply aA));exact xK.out) hb);have yj:=Aside0.mk (aQ (by repeat (first|(with_reducible first|exact HB.out|apply ay|apply aj|apply av|refine ak ?_ xR.out|refine ak ?_ xW.out)|exact HB.out)) hb);clear xO;clear xK;clear HB;have xO:=yg;have xK:=yh;have HB:=yj;clear yg yh yj;(try clear hb);(try clear hb2);(try clear hk);(try clear hi)))
          repeat (go_quiet (first|(go_at_call 18;(with_reducible refine (bQ.calls k1 ((aD xJ xI).f0) true _ BU.out).mono ?_);rintro e w' ⟨rfl,⟨nd,rfl⟩⟩;(try first|exact ⟨rfl,_,World.drewN_drewN _ _ _⟩|exact ⟨rfl,_,Eq.trans (World.drewN_drewN _ _ _) (congrArg (World.drewN _) (Nat.add_assoc _ _ _))⟩))|(go_at_call 41;(with_reducible refine (dG.calls k1 ((aD xJ xI).f1) false _ Dt.out).mono ?_);rintro e ED ⟨rfl,hb⟩;have yg:=Aside0.mk (aK (g:=xP) (o:=.cells #[.int .u64 xQ,.slice (some xY) xJ.length xX] 49 (0,0)) (by (with_reducible repeat (first|apply aC|apply aG|apply aA));refine aU ?_ xL.out _;(with_reducible repeat (first|apply aC|apply aG|apply aA));refine aU ?_ xL.out _;(with_reducible repeat (first|apply aC|apply aG|apply aA));refine aU ?_ xL.out _;(with_reducible repeat (first|apply aC|apply aG|apply aA));refine aU ?_ xL.out _;(with_reducible repeat (first|apply aC|apply aG|apply aA));refine aU ?_ xL.out _;(with_reducible repeat (first|apply aC|apply aG|apply aA));refine aU ?_ xL.out _;(with_reducible repeat (first|apply aC|apply aG|apply aA));exact xO.out) hb);have yh:=Aside0.mk (aK (g:=xM) (o:=.cells #[.string ((aD xJ xI).f0),.string ((aD xJ xI).f1),.string ((aD xJ xI).f2),.int .u8 ((aD xJ xI).f3),.int .u16 ((aD xJ xI).f4),.slice xU ((aD xJ xI).f5).length xV] 98 (0,0)) (by (with_reducible repeat (first|apply aC|apply aG|apply aA));refine bE (cs:=#[.string ((aD xJ xI).f0),.string ((aD xJ xI).f1),.string ((aD xJ xI).f2),.int .u8 ((aD xJ xI).f3),.int .u16 ((aD xJ xI).f4),.slice none 0 0]) ?_ 5 _ rfl;(with_reducible repeat (first|apply aC|apply aG|apply aA));refine bE (cs:=#[.string ((aD xJ xI).f0),.string ((aD xJ xI).f1),.string ((aD xJ xI).f2),.int .u8 ((aD xJ xI).f3),.int .u16 0,.slice none 0 0]) ?_ 4 _ rfl;(with_reducible repeat (first|apply aC|apply aG|apply aA));refine bE (cs:=#[.string ((aD xJ xI).f0),.string ((aD xJ xI).f1),.string ((aD xJ xI).f2),.int .u8 0,.int .u16 0,.slice none 0 0]) ?_ 3 _ rfl;(with_reducible repeat (first|apply aC|apply aG|apply aA));refine bE (cs:=#[.string ((aD xJ xI).f0),.string ((aD xJ xI).f1),.string (⟨#[]⟩ : ByteArray),.int .u8 0,.int .u16 0,.slice none 0 0]) ?_ 2 _ rfl;(with_reducible repeat (first|apply aC|apply aG|apply aA));refine bE (cs:=#[.string ((aD xJ xI).f0),.string (⟨#[]⟩ : ByteArray),.string (⟨#[]⟩ : ByteArray),.int .u8 0,.int .u16 0,.slice none 0 0]) ?_ 1 _ rfl;(with_reducible repeat (first|apply aC|apply aG|apply aA));refine bE (cs:=#[.string (⟨#[]⟩ : ByteArray),.string (⟨#[]⟩ : ByteArray),.string (⟨#[]⟩ : ByteArray),.int .u8 0,.int .u16 0,.slice none 0 0]) ?_ 0 _ rfl;(with_reducible repeat (first|apply aC|apply aG|apply aA));exact xK.out) hb);have yj:=Aside0.mk (aQ (by repeat (first|(with_reducible first|exact HB.out|apply ay|apply aj|apply av|refine ak ?_ xR.out|refine ak ?_ xW.out)|exact HB.out)) hb);clear xO;clear xK;clear HB;have xO:=yg;have xK:=yh;have HB:=yj;clear yg yh yj;(try clear hb);(try clear hb2);(try clear hk);(try clear hi)));try go_wp2_with (first|(go_at_call 18;(with_reducible refine (bQ.calls k1 ((aD xJ xI).f0) true _ BU.out).mono ?_);rintro e w' ⟨rfl,⟨nd,rfl⟩⟩;(try first|exact ⟨rfl,_,World.drewN_drewN _ _ _⟩|exact ⟨rfl,_,Eq.trans (World.drewN_drewN _ _ _) (congrArg (World.drewN _) (Nat.add_assoc _ _ _))⟩))|(go_at_call 41;(with_reducible refine (dG.calls k1 ((aD xJ xI).f1) false _ Dt.out).mono ?_);rintro e ED ⟨rfl,hb⟩;have yg:=Aside0.mk (aK (g:=xP) (o:=.cells #[.int .u64 xQ,.slice (some xY) xJ.length xX] 49 (0,0)) (by (with_reducible repeat (first|apply aC|apply aG|apply aA));refine aU ?_ xL.out _;(with_reducible repeat (first|apply aC|apply aG|apply aA));refine aU ?_ xL.out _;(with_reducible repeat (first|apply aC|apply aG|apply aA));refine aU ?_ xL.out _;(with_reducible repeat (first|apply aC|apply aG|apply aA));refine aU ?_ xL.out _;(with_reducible repeat (first|apply aC|apply aG|apply aA));refine aU ?_ xL.out _;(with_reducible repeat (first|apply aC|apply aG|apply aA));refine aU ?_ xL.out _;(with_reducible repeat (first|apply aC|apply aG|apply aA));exact xO.out) hb);have yh:=Aside0.mk (aK (g:=xM) (o:=.cells #[.string ((aD xJ xI).f0),.string ((aD xJ xI).f1),.string ((aD xJ xI).f2),.int .u8 ((aD xJ xI).f3),.int .u16 ((aD xJ xI).f4),.slice xU ((aD xJ xI).f5).length xV] 98 (0,0)) (by (with_reducible repeat (first|apply aC|apply aG|apply aA));refine bE (cs:=#[.string ((aD xJ xI).f0),.string ((aD xJ xI).f1),.string ((aD xJ xI).f2),.int .u8 ((aD xJ xI).f3),.int .u16 ((aD xJ xI).f4),.slice none 0 0]) ?_ 5 _ rfl;(with_reducible repeat (first|apply aC|apply aG|apply aA));refine bE (cs:=#[.string ((aD xJ xI).f0),.string ((aD xJ xI).f1),.string ((aD xJ xI).f2),.int .u8 ((aD xJ xI).f3),.int .u16 0,.slice none 0 0]) ?_ 4 _ rfl;(with_reducible repeat (first|apply aC|apply aG|apply aA));refine bE (cs:=#[.string ((aD xJ xI).f0),.string ((aD xJ xI).f1),.string ((aD xJ xI).f2),.int .u8 0,.int .u16 0,.slice none 0 0]) ?_ 3 _ rfl;(with_reducible repeat (first|apply aC|apply aG|apply aA));refine bE (cs:=#[.string ((aD xJ xI).f0),.string ((aD xJ xI).f1),.string (⟨#[]⟩ : ByteArray),.int .u8 0,.int .u16 0,.slice none 0 0]) ?_ 2 _ rfl;(with_reducible repeat (first|apply aC|apply aG|apply aA));refine bE (cs:=#[.string ((aD xJ xI).f0),.string (⟨#[]⟩ : ByteArray),.string (⟨#[]⟩ : ByteArray),.int .u8 0,.int .u16 0,.slice none 0 0]) ?_ 1 _ rfl;(with_reducible repeat (first|apply aC|apply aG|apply aA));refine bE (cs:=#[.string (⟨#[]⟩ : ByteArray),.string (⟨#[]⟩ : ByteArray),.string (⟨#[]⟩ : ByteArray),.int .u8 0,.int .u16 0,.slice none 0 0]) ?_ 0 _ rfl;(with_reducible repeat (first|apply aC|apply aG|apply aA));exact xK.out) hb);have yj:=Aside0.mk (aQ (by repeat (first|(with_reducible first|exact HB.out|apply ay|apply aj|apply av|refine ak ?_ xR.out|refine ak ?_ xW.out)|exact HB.out)) hb);clear xO;clear xK;clear HB;have xO:=yg;have xK:=yh;have HB:=yj;clear yg yh yj;(try clear hb);(try clear hb2);(try clear hk);(try clear hi))))
          go_meet
          case rel=>exact ⟨_,(true),(by first|rfl|(simp;done)|(simp [*];done)),H',⟨by have:=BR.out;first|omega|exact Nat.le_refl _⟩,⟨by (with_reducible repeat (first|apply aC|apply aG|apply aA));exact xO.out⟩,⟨by (with_reducible repeat (first|apply aC|apply aG|apply aA));exact xK.out⟩,⟨by repeat (first|(with_reducible first|exact HB.out|apply ay|apply aj|apply av|refine ak ?_ xR.out|refine ak ?_ xW.out)|exact HB.out)⟩⟩
        ·replace c15:=Bool.eq_false_iff.mpr c15
         subst c15
         have H1 : (aM.j1 k1 xI xJ (xJ.length : Int) xI true xQ xJ ((aD xJ xI).f0) ((aD xJ xI).f1) ((aD xJ xI).f2) ((aD xJ xI).f3) ((aD xJ xI).f4) ((aD xJ xI).f5)) = some r:=by rw [if_neg (show ¬ (false = true) by decide)] at H;exact H
         clear H
         have H:=H1
         clear H1
         have H':=Aside0.mk H
         clear H
         have EF:=xS.out
         have EG:=xL.out
         have Au : yD.cell? ⟨xM,0,none⟩ = some (.string (⟨#[]⟩ : ByteArray)):=(au xK.out 0).trans rfl
         have Av : yD.cell? ⟨xM,1,none⟩ = some (.string (⟨#[]⟩ : ByteArray)):=(au xK.out 1).trans rfl
         have Aw : yD.cell? ⟨xM,2,none⟩ = some (.string (⟨#[]⟩ : ByteArray)):=(au xK.out 2).trans rfl
         have Ay : yD.cell? ⟨xM,3,none⟩ = some (.int .u8 0):=(au xK.out 3).trans rfl
         have Az : yD.cell? ⟨xM,4,none⟩ = some (.int .u16 0):=(au xK.out 4).trans rfl
         have AA : yD.cell? ⟨xM,5,none⟩ = some (.slice none 0 0):=(au xK.out 5).trans rfl
         have AB:=aH xK.out 0
         have AJ:=aH xK.out 1
         have AL:=aH xK.out 2
         have AO:=aH xK.out 3
         have AP:=aH xK.out 4
         have AQ:=aH xK.out 5
         go_wp2_with (first|(go_at_call 18;(with_reducible refine (bQ.calls k1 ((aD xJ xI).f0) false _ BU.out).mono ?_);rintro e w' ⟨rfl,⟨nd,rfl⟩⟩;(try first|exact ⟨rfl,_,World.drewN_drewN _ _ _⟩|exact ⟨rfl,_,Eq.trans (World.drewN_drewN _ _ _) (congrArg (World.drewN _) (Nat.add_assoc _ _ _))⟩)))
         repeat (go_quiet (first|(go_at_call 18;(with_reducible refine (bQ.calls k1 ((aD xJ xI).f0) false _ BU.out).mono ?_);rintro e w' ⟨rfl,⟨nd,rfl⟩⟩;(try first|exact ⟨rfl,_,World.drewN_drewN _ _ _⟩|exact ⟨rfl,_,Eq.trans (World.drewN_drewN _ _ _) (congrArg (World.drewN _) (Nat.add_assoc _ _ _))⟩)));try go_wp2_with (first|(go_at_call 18;(with_reducible refine (bQ.calls k1 ((aD xJ xI).f0) false _ BU.out).mono ?_);rintro e w' ⟨rfl,⟨nd,rfl⟩⟩;(try first|exact ⟨rfl,_,World.drewN_drewN _ _ _⟩|exact ⟨rfl,_,Eq.trans (World.drewN_drewN _ _ _) (congrArg (World.drewN _) (Nat.add_assoc _ _ _))⟩))))
         go_meet
         case rel=>exact ⟨_,(true),(by first|rfl|(simp;done)|(simp [*];done)),H',⟨by have:=BR.out;first|omega|exact Nat.le_refl _⟩,⟨by (with_reducible repeat (first|apply aC|apply aG|apply aA));refine aU ?_ xL.out _;(with_reducible repeat (first|apply aC|apply aG|apply aA));refine aU ?_ xL.out _;(with_reducible repeat (first|apply aC|apply aG|apply aA));refine aU ?_ xL.out _;(with_reducible repeat (first|apply aC|apply aG|apply aA));refine aU ?_ xL.out _;(with_reducible repeat (first|apply aC|apply aG|apply aA));refine aU ?_ xL.out _;(with_reducible repeat (first|apply aC|apply aG|apply aA));refine aU ?_ xL.out _;(with_reducible repeat (first|apply aC|apply aG|apply aA));exact xO.out⟩,⟨by (with_reducible repeat (first|apply aC|apply aG|apply aA));refine bE (cs:=#[.string ((aD xJ xI).f0),.string ((aD xJ xI).f1),.string ((aD xJ xI).f2),.int .u8 ((aD xJ xI).f3),.int .u16 ((aD xJ xI).f4),.slice none 0 0]) ?_ 5 _ rfl;(with_reducible repeat (first|apply aC|apply aG|apply aA));refine bE (cs:=#[.string ((aD xJ xI).f0),.string ((aD xJ xI).f1),.string ((aD xJ xI).f2),.int .u8 ((aD xJ xI).f3),.int .u16 0,.slice none 0 0]) ?_ 4 _ rfl;(with_reducible repeat (first|apply aC|apply aG|apply aA));refine bE (cs:=#[.string ((aD xJ xI).f0),.string ((aD xJ xI).f1),.string ((aD xJ xI).f2),.int .u8 0,.int .u16 0,.slice none 0 0]) ?_ 3 _ rfl;(with_reducible repeat (first|apply aC|apply aG|apply aA));refine bE (cs:=#[.string ((aD xJ xI).f0),.string ((aD xJ xI).f1),.string (⟨#[]⟩ : ByteArray),.int .u8 0,.int .u16 0,.slice none 0 0]) ?_ 2 _ rfl;(with_reducible repeat (first|apply aC|apply aG|apply aA));refine bE (cs:=#[.string ((aD xJ xI).f0),.string (⟨#[]⟩ : ByteArray),.string (⟨#[]⟩ : ByteArray),.int .u8 0,.int .u16 0,.slice none 0 0]) ?_ 1 _ rfl;(with_reducible repeat (first|apply aC|apply aG|apply aA));refine bE (cs:=#[.string (⟨#[]⟩ : ByteArray),.string (⟨#[]⟩ : ByteArray),.string (⟨#[]⟩ : ByteArray),.int .u8 0,.int .u16 0,.slice none 0 0]) ?_ 0 _ rfl;(with_reducible repeat (first|apply aC|apply aG|apply aA));exact xK.out⟩,⟨by repeat (first|(with_reducible first|exact HB.out|apply ay|apply aj|apply av|refine ak ?_ xR.out|refine ak ?_ xW.out)|exact HB.out)⟩⟩
       case rest =>
        clear Dl
        try clear c1
        try clear p1
        try clear q1
        try clear hx1
        try clear c2
        try clear c2b0
        try clear c2b1
        try clear p2
        try clear c7
        try clear c7b0
        try clear c8
        try clear c8b0
        try clear c9
        try clear c9b0
        try clear c12
        try clear c14
        try clear DJ
        try clear DK
        try clear Dz
        try clear c15
        try clear c17
        try clear c19
        try clear c23
        try clear EH
        try clear EI
        try clear yR
        try clear yS
        try clear yT
        try clear yU
        try clear yV
        try clear yX
        try clear zU
        try clear zV
        try clear zW
        try clear zX
        try clear zY
        try clear zZ
        try clear zi
        try clear zk
        try clear zl
        try clear zm
        try clear zn
        try clear zo
        try clear Af
        try clear Ag
        try clear Ah
        try clear Ai
        try clear Aj
        try clear Ak
        try clear Au
        try clear Av
        try clear Aw
        try clear Ay
        try clear Az
        try clear AA
        try clear zI
        try clear zJ
        try clear zM
        try clear zN
        try clear yY
        try clear yZ
        try clear za
        try clear ze
        try clear zf
        try clear zh
        try clear z8
        try clear Aa
        try clear Ab
        try clear Ac
        try clear Ad
        try clear Ae
        try clear zq
        try clear zu
        try clear zw
        try clear zx
        try clear zy
        try clear zA
        try clear Al
        try clear Am
        try clear Ao
        try clear Ap
        try clear Aq
        try clear Ar
        try clear AB
        try clear AJ
        try clear AL
        try clear AO
        try clear AP
        try clear AQ
        try clear zK
        try clear zL
        try clear zO
        try clear zP
        try clear yH
        try clear yI
        try clear yJ
        try clear yK
        try clear yL
        try clear yM
        try clear BJ
        try clear p2
        try clear BK
        obtain ⟨kq,A9,rfl,HA,Dm,xO,xK,HB⟩:=hcut
        cases kq with
        | zero=>exact absurd HA.out (by simp [aM.j1])
        | succ DL =>
         have H:=HA.out
         clear HA
         simp only [aM.j1] at H
         by_cases c28 : A9 = true
         ·subst c28
          have H1 : (some 13) = some r:=by rw [if_pos rfl] at H;exact H
          clear H
          have H:=H1
          clear H1
          obtain rfl:=Option.some.inj H
          go_wp2
          repeat (go_quiet (fail);try go_wp2)
          go_ret
          exact ⟨by first|rfl|(simp [aZ,bf] <;> rfl)|(simp [*,aZ,bf] <;> rfl),by repeat (first|(with_reducible first|exact HB.out|apply ay|apply aj|apply av|refine ak ?_ xR.out|refine ak ?_ xW.out)|exact HB.out)⟩
         ·replace c28:=Bool.eq_false_iff.mpr c28
          subst c28
          have H1 : (if xI > 0 then (if 0 ≤ (wrap64 (xI - 1)) then (if (wrap64 (xI - 1)) < (xJ.length : Int) then (aM.j2 DL xJ (xJ.length : Int) xI (!(Op.bytesLess (((aD xJ (wrap64 (xI - 1))).f0).toList) ((aD xJ xI).f0).toList)) xQ xJ ((aD xJ xI).f0) ((aD xJ xI).f1) ((aD xJ xI).f2) ((aD xJ xI).f3) ((aD xJ xI).f4) ((aD xJ xI).f5)) else (none)) else (none)) else (aM.j2 DL xJ (xJ.length : Int) xI false xQ xJ ((aD xJ xI).f0) ((aD xJ xI).f1) ((aD xJ xI).f2) ((aD xJ xI).f3) ((aD xJ xI).f4) ((aD xJ xI).f5))) = some r:=by rw [if_neg (show ¬ (false = true) by decide)] at H;exact H
          clear H
          have H:=H1
          clear H1
          have Dn:=Aside0.mk H
          clear H
          go_upto_region 8 with (fail)
          repeat (go_quiet (fail);go_upto_region 8 with (fail))
          go_cut [35] (fun v35 wc=>∃ (kq : Nat) (AU : Bool),v35 = .bool AU ∧ Aside0 (aM.j2 kq xJ (xJ.length : Int) xI AU xQ xJ ((aD xJ xI).f0) ((aD xJ xI).f1) ((aD xJ xI).f2) ((aD xJ xI).f3) ((aD xJ xI).f4) ((aD xJ xI).f5) = some r) ∧ Aside0 (kq ≤ DL) ∧ Aside0 (wc.heap[xP]? = some (.cells #[.int .u64 xQ,(.slice (some xY) xJ.length xX)] 49 (0,0))) ∧ Aside0 (wc.heap[xM]? = some (.cells #[.string ((aD xJ xI).f0),.string ((aD xJ xI).f1),.string ((aD xJ xI).f2),.int .u8 ((aD xJ xI).f3),.int .u16 ((aD xJ xI).f4),(.slice xU ((aD xJ xI).f5).length xV)] 98 (0,0))) ∧ Aside0 (Below w.heap.size w wc))
          case first =>
           have H:=Dn.out
           clear Dn
           by_cases Dk : xI > 0
           ·rw [if_pos Dk] at H
            have c30b0 : decide (0 < xI) = true:=decide_eq_true Dk
            clear Dk
            (first|rw [c30b0]|(simp only [bD,bG];rw [c30b0])|skip)
            obtain ⟨zR,Bf⟩ : ∃ j_ : Int,(wrap64 (xI - 1)) = j_:=⟨_,rfl⟩
            replace H : (if 0 ≤ (zR) then (if (zR) < (xJ.length : Int) then (aM.j2 DL xJ (xJ.length : Int) xI (!(Op.bytesLess (((aD xJ (zR)).f0).toList) ((aD xJ xI).f0).toList)) xQ xJ ((aD xJ xI).f0) ((aD xJ xI).f1) ((aD xJ xI).f2) ((aD xJ xI).f3) ((aD xJ xI).f4) ((aD xJ xI).f5)) else (none)) else (none)) = some r:=by first|(rw [Bf] at H;exact H)|(simp only [Bf] at H ⊢;exact H)
            have hji31w : (IntKind.i64.wrap (xI - 1)) = zR:=(bD _).trans Bf
            by_cases c32 : 0 ≤ (zR)
            ·rw [if_pos c32] at H
             have c32b0 : decide (0 ≤ (zR)) = true:=decide_eq_true c32
             clear c32
             by_cases Du : (zR) < (xJ.length : Int)
             ·rw [if_pos Du] at H
              have c33b0 : decide ((zR) < (xJ.length : Int)) = true:=decide_eq_true Du
              clear Du
              have H':=Aside0.mk H
              clear H
              have EJ:=xS.out
              have EK:=xL.out
              have Bg : wc.cell? ⟨xM,0,none⟩ = some (.string ((aD xJ xI).f0)):=(au xK.out 0).trans rfl
              have Bh : wc.cell? ⟨xM,1,none⟩ = some (.string ((aD xJ xI).f1)):=(au xK.out 1).trans rfl
              have Bj : wc.cell? ⟨xM,2,none⟩ = some (.string ((aD xJ xI).f2)):=(au xK.out 2).trans rfl
              have Bl : wc.cell? ⟨xM,3,none⟩ = some (.int .u8 ((aD xJ xI).f3)):=(au xK.out 3).trans rfl
              have Bn : wc.cell? ⟨xM,4,none⟩ = some (.int .u16 ((aD xJ xI).f4)):=(au xK.out 4).trans rfl
              have Bo : wc.cell? ⟨xM,5,none⟩ = some (.slice xU ((aD xJ xI).f5).length xV):=(au xK.out 5).trans rfl
              have Bp:=aH xK.out 0
              have Bq:=aH xK.out 1
              have Br:=aH xK.out 2
              have Bt:=aH xK.out 3
              have Bu:=aH xK.out 4
              have Bv:=aH xK.out 5
              have Bw : wc.cell? ⟨xP,0,none⟩ = some (.int .u64 xQ):=(au xO.out 0).trans rfl
              have Bz : wc.cell? ⟨xP,1,none⟩ = some (.slice (some xY) xJ.length xX):=(au xO.out 1).trans rfl
              have BA:=aH xO.out 0
              have BF:=aH xO.out 1
              have BO : 0 ≤ ((zR) : Int):=of_decide_eq_true (by first|(with_reducible assumption)|assumption)
              have BP : (zR) < (xJ.length : Int):=of_decide_eq_true (by first|(with_reducible assumption)|assumption)
              obtain ⟨DC,Et,Eu,Ew,zB,zC,zD,zF,zG,zH,BG,BH⟩:=jD Da.out (zR) BO BP
              obtain rfl : xY = DC:=(by injection Ew)
              replace zB:=(HB.out.cell (World.block_lt_of_cell? w _ zB)).trans zB
              replace zC:=(HB.out.cell (World.block_lt_of_cell? w _ zC)).trans zC
              replace zD:=(HB.out.cell (World.block_lt_of_cell? w _ zD)).trans zD
              replace zF:=(HB.out.cell (World.block_lt_of_cell? w _ zF)).trans zF
              replace zG:=(HB.out.cell (World.block_lt_of_cell? w _ zG)).trans zG
              replace zH:=(HB.out.cell (World.block_lt_of_cell? w _ zH)).trans zH
              have DN:=Aside0.mk BH
              have DR:=Aside0.mk BG
              clear BH BG
              replace BO:=eq_true BO
              replace BP:=eq_true BP
              go_wp2
              repeat (go_quiet (fail);try go_wp2)
              go_meet
              case rel=>exact ⟨_,(!(Op.bytesLess (((aD xJ (zR)).f0).toList) ((aD xJ xI).f0).toList)),(by first|rfl|(simp;done)|(simp only [← Bf] <;> (first|rfl|simp))|(simp [*];done)),H',⟨by have:=BR.out;have:=Dm.out;first|omega|exact Nat.le_refl _⟩,⟨by (with_reducible repeat (first|apply aC|apply aG|apply aA));exact xO.out⟩,⟨by (with_reducible repeat (first|apply aC|apply aG|apply aA));exact xK.out⟩,⟨by repeat (first|(with_reducible first|exact HB.out|apply ay|apply aj|apply av|refine ak ?_ xR.out|refine ak ?_ xW.out)|exact HB.out)⟩⟩
             ·rw [if_neg Du] at H
              exact absurd H (by simp)
            ·rw [if_neg c32] at H
             exact absurd H (by simp)
           ·rw [if_neg Dk] at H
            have c30b0 : decide (0 < xI) = false:=decide_eq_false Dk
            clear Dk
            (first|rw [c30b0]|(simp only [bD,bG];rw [c30b0])|skip)
            have H':=Aside0.mk H
            clear H
            go_wp2
            repeat (go_quiet (fail);try go_wp2)
            go_meet
            case rel=>exact ⟨_,(false),(by first|rfl|(simp;done)|(simp [*];done)),H',⟨by have:=BR.out;have:=Dm.out;first|omega|exact Nat.le_refl _⟩,⟨by (with_reducible repeat (first|apply aC|apply aG|apply aA));exact xO.out⟩,⟨by (with_reducible repeat (first|apply aC|apply aG|apply aA));exact xK.out⟩,⟨by repeat (first|(with_reducible first|exact HB.out|apply ay|apply aj|apply av|refine ak ?_ xR.out|refine ak ?_ xW.out)|exact HB.out)⟩⟩
          case rest =>
           clear Dn
           try clear c1
           try clear p1
           try clear q1
           try clear hx1
           try clear c2
           try clear c2b0
           try clear c2b1
           try clear p2
           try clear c3
           try clear p6
           try clear c7
           try clear c7b0
           try clear c8
           try clear c8b0
           try clear c9
           try clear c9b0
           try clear c12
           try clear c14
           try clear DJ
           try clear DK
           try clear Dz
           try clear c15
           try clear c17
           try clear c19
           try clear c23
           try clear EH
           try clear EI
           try clear c28
           try clear Dk
           try clear c30b0
           try clear c32
           try clear c32b0
           try clear Du
           try clear c33b0
           try clear c34
           try clear yR
           try clear yS
           try clear yT
           try clear yU
           try clear yV
           try clear yX
           try clear zU
           try clear zV
           try clear zW
           try clear zX
           try clear zY
           try clear zZ
           try clear zi
           try clear zk
           try clear zl
           try clear zm
           try clear zn
           try clear zo
           try clear Af
           try clear Ag
           try clear Ah
           try clear Ai
           try clear Aj
           try clear Ak
           try clear Au
           try clear Av
           try clear Aw
           try clear Ay
           try clear Az
           try clear AA
           try clear Bg
           try clear Bh
           try clear Bj
           try clear Bl
           try clear Bn
           try clear Bo
           try clear Bw
           try clear Bz
           try clear zI
           try clear zJ
           try clear zM
           try clear zN
           try clear yY
           try clear yZ
           try clear za
           try clear ze
           try clear zf
           try clear zh
           try clear z8
           try clear Aa
           try clear Ab
           try clear Ac
           try clear Ad
           try clear Ae
           try clear zq
           try clear zu
           try clear zw
           try clear zx
           try clear zy
           try clear zA
           try clear Al
           try clear Am
           try clear Ao
           try clear Ap
           try clear Aq
           try clear Ar
           try clear AB
           try clear AJ
           try clear AL
           try clear AO
           try clear AP
           try clear AQ
           try clear Bp
           try clear Bq
           try clear Br
           try clear Bt
           try clear Bu
           try clear Bv
           try clear BA
           try clear BF
           try clear zK
           try clear zL
           try clear zO
           try clear zP
           try clear yH
           try clear yI
           try clear yJ
           try clear yK
           try clear yL
           try clear yM
           try clear zB
           try clear zC
           try clear zD
           try clear zF
           try clear zG
           try clear zH
           try clear p1
           try clear DJ
           try clear BJ
           try clear BO
           try clear p2
           try clear q1
           try clear DK
           try clear BK
           try clear BP
           obtain ⟨kq,AU,rfl,HA,BQ,xO,xK,HB⟩:=hcut
           cases kq with
           | zero=>exact absurd HA.out (by simp [aM.j2])
           | succ BZ =>
            have H:=HA.out
            clear HA
            simp only [aM.j2] at H
            by_cases c37 : AU = true
            ·subst c37
             have H1 : (some 6) = some r:=by rw [if_pos rfl] at H;exact H
             clear H
             have H:=H1
             clear H1
             obtain rfl:=Option.some.inj H
             go_wp2
             repeat (go_quiet (fail);try go_wp2)
             go_ret
             exact ⟨by first|rfl|(simp [aZ,bf] <;> rfl)|(simp [*,aZ,bf] <;> rfl),by repeat (first|(with_reducible first|exact HB.out|apply ay|apply aj|apply av|refine ak ?_ xR.out|refine ak ?_ xW.out)|exact HB.out)⟩
            ·replace c37:=Bool.eq_false_iff.mpr c37
             subst c37
             have H1 : (if ((aD xJ xI).f3) > 2 then (aM.j3 BZ xJ (xJ.length : Int) xI true xQ xJ ((aD xJ xI).f0) ((aD xJ xI).f1) ((aD xJ xI).f2) ((aD xJ xI).f3) ((aD xJ xI).f4) ((aD xJ xI).f5)) else (if ((aD xJ xI).f4) < 1 then (aM.j3 BZ xJ (xJ.length : Int) xI true xQ xJ ((aD xJ xI).f0) ((aD xJ xI).f1) ((aD xJ xI).f2) ((aD xJ xI).f3) ((aD xJ xI).f4) ((aD xJ xI).f5)) else (aM.j3 BZ xJ (xJ.length : Int) xI (decide (((aD xJ xI).f4) > 3600)) xQ xJ ((aD xJ xI).f0) ((aD xJ xI).f1) ((aD xJ xI).f2) ((aD xJ xI).f3) ((aD xJ xI).f4) ((aD xJ xI).f5)))) = some r:=by rw [if_neg (show ¬ (false = true) by decide)] at H;exact H
             clear H
             have H:=H1
             clear H1
             have Dp:=Aside0.mk H
             clear H
             go_upto_region 10 with (fail)
             repeat (go_quiet (fail);go_upto_region 10 with (fail))
             go_cut [50] (fun v50 wc=>∃ (kq : Nat) (AV : Bool),v50 = .bool AV ∧ Aside0 (aM.j3 kq xJ (xJ.length : Int) xI AV xQ xJ ((aD xJ xI).f0) ((aD xJ xI).f1) ((aD xJ xI).f2) ((aD xJ xI).f3) ((aD xJ xI).f4) ((aD xJ xI).f5) = some r) ∧ Aside0 (kq ≤ BZ) ∧ Aside0 (wc.heap[xP]? = some (.cells #[.int .u64 xQ,(.slice (some xY) xJ.length xX)] 49 (0,0))) ∧ Aside0 (wc.heap[xM]? = some (.cells #[.string ((aD xJ xI).f0),.string ((aD xJ xI).f1),.string ((aD xJ xI).f2),.int .u8 ((aD xJ xI).f3),.int .u16 ((aD xJ xI).f4),(.slice xU ((aD xJ xI).f5).length xV)] 98 (0,0))) ∧ Aside0 (Below w.heap.size w wc))
             case first =>
              have H:=Dp.out
              clear Dp
              by_cases Dq : ((aD xJ xI).f3) > 2
              ·rw [if_pos Dq] at H
               have c39b0 : decide (2 < ((aD xJ xI).f3)) = true:=decide_eq_true Dq
               clear Dq
               (first|rw [c39b0]|(simp only [bD,bG];rw [c39b0])|skip)
               have H':=Aside0.mk H
               clear H
               have EL:=xS.out
               have EM:=xL.out
               have Ca : wc.cell? ⟨xM,0,none⟩ = some (.string ((aD xJ xI).f0)):=(au xK.out 0).trans rfl
               have Cb : wc.cell? ⟨xM,1,none⟩ = some (.string ((aD xJ xI).f1)):=(au xK.out 1).trans rfl
               have Cc : wc.cell? ⟨xM,2,none⟩ = some (.string ((aD xJ xI).f2)):=(au xK.out 2).trans rfl
               have Ce : wc.cell? ⟨xM,3,none⟩ = some (.int .u8 ((aD xJ xI).f3)):=(au xK.out 3).trans rfl
               have Cg : wc.cell? ⟨xM,4,none⟩ = some (.int .u16 ((aD xJ xI).f4)):=(au xK.out 4).trans rfl
               have Ch : wc.cell? ⟨xM,5,none⟩ = some (.slice xU ((aD xJ xI).f5).length xV):=(au xK.out 5).trans rfl
               have Ci:=aH xK.out 0
               have Cj:=aH xK.out 1
               have Ck:=aH xK.out 2
               have Cm:=aH xK.out 3
               have Cn:=aH xK.out 4
               have Co:=aH xK.out 5
               go_wp2
               repeat (go_quiet (fail);try go_wp2)
               go_meet
               case rel=>exact ⟨_,(true),(by first|rfl|(simp;done)|(simp [*];done)),H',⟨by have:=BR.out;have:=Dm.out;have:=BQ.out;first|omega|exact Nat.le_refl _⟩,⟨by (with_reducible repeat (first|apply aC|apply aG|apply aA));exact xO.out⟩,⟨by (with_reducible repeat (first|apply aC|apply aG|apply aA));exact xK.out⟩,⟨by repeat (first|(with_reducible first|exact HB.out|apply ay|apply aj|apply av|refine ak ?_ xR.out|refine ak ?_ xW.out)|exact HB.out)⟩⟩
              ·rw [if_neg Dq] at H
               have c39b0 : decide (2 < ((aD xJ xI).f3)) = false:=decide_eq_false Dq
               clear Dq
               (first|rw [c39b0]|(simp only [bD,bG];rw [c39b0])|skip)
               by_cases Dr : ((aD xJ xI).f4) < 1
               ·rw [if_pos Dr] at H
                have c42b0 : decide (((aD xJ xI).f4) < 1) = true:=decide_eq_true Dr
                clear Dr
                have H':=Aside0.mk H
                clear H
                have EN:=xS.out
                have EO:=xL.out
                have Cq : wc.cell? ⟨xM,0,none⟩ = some (.string ((aD xJ xI).f0)):=(au xK.out 0).trans rfl
                have Cr : wc.cell? ⟨xM,1,none⟩ = some (.string ((aD xJ xI).f1)):=(au xK.out 1).trans rfl
                have Ct : wc.cell? ⟨xM,2,none⟩ = some (.string ((aD xJ xI).f2)):=(au xK.out 2).trans rfl
                have Cu : wc.cell? ⟨xM,3,none⟩ = some (.int .u8 ((aD xJ xI).f3)):=(au xK.out 3).trans rfl
                have Cv : wc.cell? ⟨xM,4,none⟩ = some (.int .u16 ((aD xJ xI).f4)):=(au xK.out 4).trans rfl
                have Cw : wc.cell? ⟨xM,5,none⟩ = some (.slice xU ((aD xJ xI).f5).length xV):=(au xK.out 5).trans rfl
                have Cx:=aH xK.out 0
                have Cy:=aH xK.out 1
                have Cz:=aH xK.out 2
                have CB:=aH xK.out 3
                have CF:=aH xK.out 4
                have CG:=aH xK.out 5
                go_wp2
                repeat (go_quiet (fail);try go_wp2)
                go_meet
                case rel=>exact ⟨_,(true),(by first|rfl|(simp;done)|(simp [*];done)),H',⟨by have:=BR.out;have:=Dm.out;have:=BQ.out;first|omega|exact Nat.le_refl _⟩,⟨by (with_reducible repeat (first|apply aC|apply aG|apply aA));exact xO.out⟩,⟨by (with_reducible repeat (first|apply aC|apply aG|apply aA));exact xK.out⟩,⟨by repeat (first|(with_reducible first|exact HB.out|apply ay|apply aj|apply av|refine ak ?_ xR.out|refine ak ?_ xW.out)|exact HB.out)⟩⟩
               ·rw [if_neg Dr] at H
                have c42b0 : decide (((aD xJ xI).f4) < 1) = false:=decide_eq_false Dr
                clear Dr
                have H':=Aside0.mk H
                clear H
                have EP:=xS.out
                have ER:=xL.out
                have CJ : wc.cell? ⟨xM,0,none⟩ = some (.string ((aD xJ xI).f0)):=(au xK.out 0).trans rfl
                have CK : wc.cell? ⟨xM,1,none⟩ = some (.string ((aD xJ xI).f1)):=(au xK.out 1).trans rfl
                have CO : wc.cell? ⟨xM,2,none⟩ = some (.string ((aD xJ xI).f2)):=(au xK.out 2).trans rfl
                have CP : wc.cell? ⟨xM,3,none⟩ = some (.int .u8 ((aD xJ xI).f3)):=(au xK.out 3).trans rfl
                have CQ : wc.cell? ⟨xM,4,none⟩ = some (.int .u16 ((aD xJ xI).f4)):=(au xK.out 4).trans rfl
                have CS : wc.cell? ⟨xM,5,none⟩ = some (.slice xU ((aD xJ xI).f5).length xV):=(au xK.out 5).trans rfl
                have CU:=aH xK.out 0
                have CV:=aH xK.out 1
                have CW:=aH xK.out 2
                have CX:=aH xK.out 3
                have CY:=aH xK.out 4
                have CZ:=aH xK.out 5
                go_wp2
                repeat (go_quiet (fail);try go_wp2)
                go_meet
                case rel=>exact ⟨_,(decide (((aD xJ xI).f4) > 3600)),(by first|rfl|(simp;done)|(simp [*];done)),H',⟨by have:=BR.out;have:=Dm.out;have:=BQ.out;first|omega|exact Nat.le_refl _⟩,⟨by (with_reducible repeat (first|apply aC|apply aG|apply aA));exact xO.out⟩,⟨by (with_reducible repeat (first|apply aC|apply aG|apply aA));exact xK.out⟩,⟨by repeat (first|(with_reducible first|exact HB.out|apply ay|apply aj|apply av|refine ak ?_ xR.out|refine ak ?_ xW.out)|exact HB.out)⟩⟩
             case rest =>
              clear Dp
              try clear c1
              try clear p1
              try clear q1
              try clear hx1
              try clear c2
              try clear c2b0
              try clear c2b1
              try clear p2
              try clear c3
              try clear c4
              try clear p6
              try clear c7
              try clear c7b0
              try clear c8
              try clear c8b0
              try clear c9
              try clear c9b0
              try clear c12
              try clear c14
              try clear DJ
              try clear DK
              try clear Dz
              try clear c15
              try clear c17
              try clear c19
              try clear c23
              try clear EH
              try clear EI
              try clear c28
              try clear Dk
              try clear c30b0
              try clear c32
              try clear c32b0
              try clear Du
              try clear c33b0
              try clear c34
              try clear c37
              try clear Dq
              try clear c39b0
              try clear c40
              try clear Dr
              try clear c42b0
              try clear Fa
              try clear Fb
              try clear yR
              try clear yS
              try clear yT
              try clear yU
              try clear yV
              try clear yX
              try clear zU
              try clear zV
              try clear zW
              try clear zX
              try clear zY
              try clear zZ
              try clear zi
              try clear zk
              try clear zl
              try clear zm
              try clear zn
              try clear zo
              try clear Af
              try clear Ag
              try clear Ah
              try clear Ai
              try clear Aj
              try clear Ak
              try clear Au
              try clear Av
              try clear Aw
              try clear Ay
              try clear Az
              try clear AA
              try clear Bg
              try clear Bh
              try clear Bj
              try clear Bl
              try clear Bn
              try clear Bo
              try clear Bw
              try clear Bz
              try clear Ca
              try clear Cb
              try clear Cc
              try clear Ce
              try clear Cg
              try clear Ch
              try clear Cq
              try clear Cr
              try clear Ct
              try clear Cu
              try clear Cv
              try clear Cw
              try clear CJ
              try clear CK
              try clear CO
              try clear CP
              try clear CQ
              try clear CS
              try clear zI
              try clear zJ
              try clear zM
              try clear zN
              try clear yY
              try clear yZ
              try clear za
              try clear ze
              try clear zf
              try clear zh
              try clear z8
              try clear Aa
              try clear Ab
              try clear Ac
              try clear Ad
              try clear Ae
              try clear zq
              try clear zu
              try clear zw
              try clear zx
              try clear zy
              try clear zA
              try clear Al
              try clear Am
              try clear Ao
              try clear Ap
              try clear Aq
              try clear Ar
              try clear AB
              try clear AJ
              try clear AL
              try clear AO
              try clear AP
              try clear AQ
              try clear Bp
              try clear Bq
              try clear Br
              try clear Bt
              try clear Bu
              try clear Bv
              try clear BA
              try clear BF
              try clear Ci
              try clear Cj
              try clear Ck
              try clear Cm
              try clear Cn
              try clear Co
              try clear Cx
              try clear Cy
              try clear Cz
              try clear CB
              try clear CF
              try clear CG
              try clear CU
              try clear CV
              try clear CW
              try clear CX
              try clear CY
              try clear CZ
              try clear zK
              try clear zL
              try clear zO
              try clear zP
              try clear yH
              try clear yI
              try clear yJ
              try clear yK
              try clear yL
              try clear yM
              try clear zB
              try clear zC
              try clear zD
              try clear zF
              try clear zG
              try clear zH
              try clear p1
              try clear DJ
              try clear BJ
              try clear BO
              try clear p2
              try clear p6
              try clear q1
              try clear DK
              try clear BK
              try clear BP
              obtain ⟨kq,AV,rfl,HA,DF,xO,xK,HB⟩:=hcut
              cases kq with
              | zero=>exact absurd HA.out (by simp [aM.j3])
              | succ zS =>
               have H:=HA.out
               clear HA
               simp only [aM.j3] at H
               by_cases DT : AV = true
               ·subst DT
                have H1 : (some 7) = some r:=by rw [if_pos rfl] at H;exact H
                clear H
                have H:=H1
                clear H1
                obtain rfl:=Option.some.inj H
                go_wp2
                repeat (go_quiet (fail);try go_wp2)
                go_ret
                exact ⟨by first|rfl|(simp [aZ,bf] <;> rfl)|(simp [*,aZ,bf] <;> rfl),by repeat (first|(with_reducible first|exact HB.out|apply ay|apply aj|apply av|refine ak ?_ xR.out|refine ak ?_ xW.out)|exact HB.out)⟩
               ·replace DT:=Bool.eq_false_iff.mpr DT
                subst DT
                have H1 : ((bX.f zS ((aD xJ xI).f5)).bind fun t146=>(if t146 = 0 then (aM.l0 zS xJ (xJ.length : Int) (wrap64 (xI + 1)) xQ xJ) else (some t146))) = some r:=by rw [if_neg (show ¬ (false = true) by decide)] at H;exact H
                clear H
                have H:=H1
                clear H1
                replace H:=Option.bind_eq_some_iff.mp H
                obtain ⟨t146,DI,H⟩:=H
                replace H : (if t146 = 0 then (aM.l0 zS xJ (xJ.length : Int) (wrap64 (xI + 1)) xQ xJ) else (some t146)) = some r:=H
                have Dv:=Aside0.mk DI
                clear DI
                by_cases c49 : t146 = 0
                ·rw [if_pos c49] at H
                 have c49b0 : (t146 == 0) = true:=beq_iff_eq.mpr c49
                 have c49b1 : (t146 != 0) = false:=bne_eq_false_iff_eq.mpr c49
                 clear c49
                 have H':=Aside0.mk H
                 clear H
                 have ES:=xS.out
                 have ET:=xL.out
                 have DU : wc.cell? ⟨xM,0,none⟩ = some (.string ((aD xJ xI).f0)):=(au xK.out 0).trans rfl
                 have DV : wc.cell? ⟨xM,1,none⟩ = some (.string ((aD xJ xI).f1)):=(au xK.out 1).trans rfl
                 have DW : wc.cell? ⟨xM,2,none⟩ = some (.string ((aD xJ xI).f2)):=(au xK.out 2).trans rfl
                 have DX : wc.cell? ⟨xM,3,none⟩ = some (.int .u8 ((aD xJ xI).f3)):=(au xK.out 3).trans rfl
                 have DY : wc.cell? ⟨xM,4,none⟩ = some (.int .u16 ((aD xJ xI).f4)):=(au xK.out 4).trans rfl
                 have DZ : wc.cell? ⟨xM,5,none⟩ = some (.slice xU ((aD xJ xI).f5).length xV):=(au xK.out 5).trans rfl
                 have D5:=aH xK.out 0
                 have D6:=aH xK.out 1
                 have D7:=aH xK.out 2
                 have D8:=aH xK.out 3
                 have D9:=aH xK.out 4
                 have Ea:=aH xK.out 5
                 go_wp2_with (first|(go_at_call 57;(with_reducible refine (bX.calls zS _ _ ((aD xJ xI).f5) t146 _ ?yE ?yF Dv.out).mono ?_);(case yE=>repeat (first|exact (Kd.dW yN.out HB.out)|(with_reducible refine Kd.dw ?_ _)|(with_reducible refine Kd.dX ?_ _)|(with_reducible refine Kd.eu ?_)));(case yF=>exact yO.out);rintro e EU ⟨rfl,hb⟩;have yg:=Aside0.mk (aK (g:=xP) (o:=.cells #[.int .u64 xQ,.slice (some xY) xJ.length xX] 49 (0,0)) (bk_ xO.out) hb);have yh:=Aside0.mk (aK (g:=xM) (o:=.cells #[.string ((aD xJ xI).f0),.string ((aD xJ xI).f1),.string ((aD xJ xI).f2),.int .u8 ((aD xJ xI).f3),.int .u16 ((aD xJ xI).f4),.slice xU ((aD xJ xI).f5).length xV] 98 (0,0)) (bk_ xK.out) hb);have yj:=Aside0.mk (aQ (by repeat (first|(with_reducible first|exact HB.out|apply ay|apply aj|apply av|refine ak ?_ xR.out|refine ak ?_ xW.out)|exact HB.out)) hb);clear xO;clear xK;clear HB;have xO:=yg;have xK:=yh;have HB:=yj;clear yg yh yj;(try clear hb);(try clear hb2);(try clear hk);(try clear hi)))
                 repeat (go_quiet (first|(go_at_call 57;(with_reducible refine (bX.calls zS _ _ ((aD xJ xI).f5) t146 _ ?yE ?yF Dv.out).mono ?_);(case yE=>repeat (first|exact (Kd.dW yN.out HB.out)|(with_reducible refine Kd.dw ?_ _)|(with_reducible refine Kd.dX ?_ _)|(with_reducible refine Kd.eu ?_)));(case yF=>exact yO.out);rintro e EU ⟨rfl,hb⟩;have yg:=Aside0.mk (aK (g:=xP) (o:=.cells #[.int .u64 xQ,.slice (some xY) xJ.length xX] 49 (0,0)) (bk_ xO.out) hb);have yh:=Aside0.mk (aK (g:=xM) (o:=.cells #[.string ((aD xJ xI).f0),.string ((aD xJ xI).f1),.string ((aD xJ xI).f2),.int .u8 ((aD xJ xI).f3),.int .u16 ((aD xJ xI).f4),.slice xU ((aD xJ xI).f5).length xV] 98 (0,0)) (bk_ xK.out) hb);have yj:=Aside0.mk (aQ (by repeat (first|(with_reducible first|exact HB.out|apply ay|apply aj|apply av|refine ak ?_ xR.out|refine ak ?_ xW.out)|exact HB.out)) hb);clear xO;clear xK;clear HB;have xO:=yg;have xK:=yh;have HB:=yj;clear yg yh yj;(try clear hb);(try clear hb2);(try clear hk);(try clear hi)));try go_wp2_with (first|(go_at_call 57;(with_reducible refine (bX.calls zS _ _ ((aD xJ xI).f5) t146 _ ?yE ?yF Dv.out).mono ?_);(case yE=>repeat (first|exact (Kd.dW yN.out HB.out)|(with_reducible refine Kd.dw ?_ _)|(with_reducible refine Kd.dX ?_ _)|(with_reducible refine Kd.eu ?_)));(case yF=>exact yO.out);rintro e EU ⟨rfl,hb⟩;have yg:=Aside0.mk (aK (g:=xP) (o:=.cells #[.int .u64 xQ,.slice (some xY) xJ.length xX] 49 (0,0)) (bk_ xO.out) hb);have yh:=Aside0.mk (aK (g:=xM) (o:=.cells #[.string ((aD xJ xI).f0),.string ((aD xJ xI).f1),.string ((aD xJ xI).f2),.int .u8 ((aD xJ xI).f3),.int .u16 ((aD xJ xI).f4),.slice xU ((aD xJ xI).f5).length xV] 98 (0,0)) (bk_ xK.out) hb);have yj:=Aside0.mk (aQ (by repeat (first|(with_reducible first|exact HB.out|apply ay|apply aj|apply av|refine ak ?_ xR.out|refine ak ?_ xW.out)|exact HB.out)) hb);clear xO;clear xK;clear HB;have xO:=yg;have xK:=yh;have HB:=yj;clear yg yh yj;(try clear hb);(try clear hb2);(try clear hk);(try clear hi))))
                 go_roundg zS
                 case measure=>have:=BR.out;have:=Dm.out;have:=BQ.out;have:=DF.out;omega
                 case rel=>exact ⟨(wrap64 (xI + 1)),(by first|rfl|(simp;done)|(simp [*];done)),H',⟨by have:=BR.out;have:=Dm.out;have:=BQ.out;have:=DF.out;omega⟩,⟨by (with_reducible repeat (first|apply aC|apply aG|apply aA));exact xO.out⟩,⟨by repeat (first|(with_reducible first|exact HB.out|apply ay|apply aj|apply av|refine ak ?_ xR.out|refine ak ?_ xW.out)|exact HB.out)⟩⟩
                ·rw [if_neg c49] at H
                 have c49b0 : (t146 == 0) = false:=beq_eq_false_iff_ne.mpr c49
                 have c49b1 : (t146 != 0) = true:=bne_iff_ne.mpr c49
                 obtain rfl:=Option.some.inj H
                 have EW:=xS.out
                 have EX:=xL.out
                 have Eb : wc.cell? ⟨xM,0,none⟩ = some (.string ((aD xJ xI).f0)):=(au xK.out 0).trans rfl
                 have Ec : wc.cell? ⟨xM,1,none⟩ = some (.string ((aD xJ xI).f1)):=(au xK.out 1).trans rfl
                 have Ed : wc.cell? ⟨xM,2,none⟩ = some (.string ((aD xJ xI).f2)):=(au xK.out 2).trans rfl
                 have Ee : wc.cell? ⟨xM,3,none⟩ = some (.int .u8 ((aD xJ xI).f3)):=(au xK.out 3).trans rfl
                 have Ef : wc.cell? ⟨xM,4,none⟩ = some (.int .u16 ((aD xJ xI).f4)):=(au xK.out 4).trans rfl
                 have Eh : wc.cell? ⟨xM,5,none⟩ = some (.slice xU ((aD xJ xI).f5).length xV):=(au xK.out 5).trans rfl
                 have Ei:=aH xK.out 0
                 have Ej:=aH xK.out 1
                 have El:=aH xK.out 2
                 have Em:=aH xK.out 3
                 have En:=aH xK.out 4
                 have Eo:=aH xK.out 5
                 go_wp2_with (first|(go_at_call 57;(with_reducible refine (bX.calls zS _ _ ((aD xJ xI).f5) t146 _ ?yE ?yF Dv.out).mono ?_);(case yE=>repeat (first|exact (Kd.dW yN.out HB.out)|(with_reducible refine Kd.dw ?_ _)|(with_reducible refine Kd.dX ?_ _)|(with_reducible refine Kd.eu ?_)));(case yF=>exact yO.out);rintro e EY ⟨rfl,hb⟩;have yg:=Aside0.mk (aK (g:=xP) (o:=.cells #[.int .u64 xQ,.slice (some xY) xJ.length xX] 49 (0,0)) (bk_ xO.out) hb);have yh:=Aside0.mk (aK (g:=xM) (o:=.cells #[.string ((aD xJ xI).f0),.string ((aD xJ xI).f1),.string ((aD xJ xI).f2),.int .u8 ((aD xJ xI).f3),.int .u16 ((aD xJ xI).f4),.slice xU ((aD xJ xI).f5).length xV] 98 (0,0)) (bk_ xK.out) hb);have yj:=Aside0.mk (aQ (by repeat (first|(with_reducible first|exact HB.out|apply ay|apply aj|apply av|refine ak ?_ xR.out|refine ak ?_ xW.out)|exact HB.out)) hb);clear xO;clear xK;clear HB;have xO:=yg;have xK:=yh;have HB:=yj;clear yg yh yj;(try clear hb);(try clear hb2);(try clear hk);(try clear hi)))
                 repeat (go_quiet (first|(go_at_call 57;(with_reducible refine (bX.calls zS _ _ ((aD xJ xI).f5) t146 _ ?yE ?yF Dv.out).mono ?_);(case yE=>repeat (first|exact (Kd.dW yN.out HB.out)|(with_reducible refine Kd.dw ?_ _)|(with_reducible refine Kd.dX ?_ _)|(with_reducible refine Kd.eu ?_)));(case yF=>exact yO.out);rintro e EY ⟨rfl,hb⟩;have yg:=Aside0.mk (aK (g:=xP) (o:=.cells #[.int .u64 xQ,.slice (some xY) xJ.length xX] 49 (0,0)) (bk_ xO.out) hb);have yh:=Aside0.mk (aK (g:=xM) (o:=.cells #[.string ((aD xJ xI).f0),.string ((aD xJ xI).f1),.string ((aD xJ xI).f2),.int .u8 ((aD xJ xI).f3),.int .u16 ((aD xJ xI).f4),.slice xU ((aD xJ xI).f5).length xV] 98 (0,0)) (bk_ xK.out) hb);have yj:=Aside0.mk (aQ (by repeat (first|(with_reducible first|exact HB.out|apply ay|apply aj|apply av|refine ak ?_ xR.out|refine ak ?_ xW.out)|exact HB.out)) hb);clear xO;clear xK;clear HB;have xO:=yg;have xK:=yh;have HB:=yj;clear yg yh yj;(try clear hb);(try clear hb2);(try clear hk);(try clear hi)));try go_wp2_with (first|(go_at_call 57;(with_reducible refine (bX.calls zS _ _ ((aD xJ xI).f5) t146 _ ?yE ?yF Dv.out).mono ?_);(case yE=>repeat (first|exact (Kd.dW yN.out HB.out)|(with_reducible refine Kd.dw ?_ _)|(with_reducible refine Kd.dX ?_ _)|(with_reducible refine Kd.eu ?_)));(case yF=>exact yO.out);rintro e EY ⟨rfl,hb⟩;have yg:=Aside0.mk (aK (g:=xP) (o:=.cells #[.int .u64 xQ,.slice (some xY) xJ.length xX] 49 (0,0)) (bk_ xO.out) hb);have yh:=Aside0.mk (aK (g:=xM) (o:=.cells #[.string ((aD xJ xI).f0),.string ((aD xJ xI).f1),.string ((aD xJ xI).f2),.int .u8 ((aD xJ xI).f3),.int .u16 ((aD xJ xI).f4),.slice xU ((aD xJ xI).f5).length xV] 98 (0,0)) (bk_ xK.out) hb);have yj:=Aside0.mk (aQ (by repeat (first|(with_reducible first|exact HB.out|apply ay|apply aj|apply av|refine ak ?_ xR.out|refine ak ?_ xW.out)|exact HB.out)) hb);clear xO;clear xK;clear HB;have xO:=yg;have xK:=yh;have HB:=yj;clear yg yh yj;(try clear hb);(try clear hb2);(try clear hk);(try clear hi))))
                 go_ret
                 exact ⟨by first|rfl|(simp [aZ,bf] <;> rfl)|(simp [*,aZ,bf] <;> rfl),by repeat (first|(with_reducible first|exact HB.out|apply ay|apply aj|apply av|refine ak ?_ xR.out|refine ak ?_ xW.out)|exact HB.out)⟩
      ·rw [if_neg c9] at H
       exact absurd H (by simp)
     ·rw [if_neg c8] at H
      exact absurd H (by simp)
    ·rw [if_neg c7] at H
     have c7b0 : decide (xI < (xJ.length : Int)) = false:=decide_eq_false c7
     clear c7
     obtain rfl:=Option.some.inj H
     go_wp2
     repeat (go_quiet (fail);try go_wp2)
     go_ret
     exact ⟨by first|rfl|(simp [aZ,bf] <;> rfl)|(simp [*,aZ,bf] <;> rfl),by repeat (first|(with_reducible first|exact HB.out|apply ay|apply aj|apply av|refine ak ?_ xR.out)|exact HB.out)⟩
end Go.Proofs.YtpmbdcljphpcnaaDoor.GC2
