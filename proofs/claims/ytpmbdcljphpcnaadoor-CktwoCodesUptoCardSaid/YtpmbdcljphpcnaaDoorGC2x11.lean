/- Written by this session's own program (wip/gen.py) out of the translation: plain Lean functions of the Go functions, and proofs that the calls come to their answers. No conditions beside those in the statements. -/
import Derived.Test.YtpmbdcljphpcnaaDoorGC2x0
import Derived.Test.YtpmbdcljphpcnaaDoorGC2x9
import Derived.Test.YtpmbdcljphpcnaaDoorGC2x10
namespace Go.Proofs.YtpmbdcljphpcnaaDoor.GC2
open Go.RowKit Go.Proofs.YtpmbdcljphpcnaaDoorW.PrintWords Go.Proofs.YtpmbdcljphpcnaaDoorW.PrintLast Go.Proofs.YtpmbdcljphpcnaaDoorW.PrintMore
attribute [local go_sem] eY eZ fJ fK eP eT fq fu
set_option linter.unusedVariables false
set_option linter.unusedSimpArgs false
mutual
def aJ.l0 : Nat → Int → Int → List (S103) → Option (Int)
 | 0,_,_,_=>none
 | k + 1,x3,xZ,xP=>if x3 < (xP.length : Int) then (if 0 ≤ x3 then ((aR.f k ((ah xP x3).f0)).bind fun Ep=>(if Ep = true then ((aY.f k ((ah xP x3).f1)).bind fun CO=>(if CO = true then ((bC.f k ((ah xP x3).f2)).bind fun zV=>(aJ.j1 k x3 (!zV) xZ xP ((ah xP x3).f0) ((ah xP x3).f1) ((ah xP x3).f2) ((ah xP x3).f3) ((ah xP x3).f4) ((ah xP x3).f5))) else (aJ.j1 k x3 true xZ xP ((ah xP x3).f0) ((ah xP x3).f1) ((ah xP x3).f2) ((ah xP x3).f3) ((ah xP x3).f4) ((ah xP x3).f5)))) else (aJ.j1 k x3 true xZ xP ((ah xP x3).f0) ((ah xP x3).f1) ((ah xP x3).f2) ((ah xP x3).f3) ((ah xP x3).f4) ((ah xP x3).f5)))) else (none)) else (some 0)
def aJ.j1 : Nat → Int → Bool → Int → List (S103) → ByteArray → ByteArray → ByteArray → Int → Int → List (S104) → Option (Int)
 | 0,_,_,_,_,_,_,_,_,_,_=>none
 | k + 1,x3,x38,xZ,xP,yj,yu,yw,yt,yg,xW=>if x38 = true then (some 13) else (if x3 > 0 then (if 0 ≤ (wrap64 (x3 - 1)) then (if (wrap64 (x3 - 1)) < (xP.length : Int) then (aJ.j2 k x3 (!(Op.bytesLess (((ah xP (wrap64 (x3 - 1))).f0).toList) yj.toList)) xZ xP yj yu yw yt yg xW) else (none)) else (none)) else (aJ.j2 k x3 false xZ xP yj yu yw yt yg xW))
def aJ.j2 : Nat → Int → Bool → Int → List (S103) → ByteArray → ByteArray → ByteArray → Int → Int → List (S104) → Option (Int)
 | 0,_,_,_,_,_,_,_,_,_,_=>none
 | k + 1,x3,Ji,xZ,xP,yj,yu,yw,yt,yg,xW=>if Ji = true then (some 6) else (if yt > 2 then (aJ.j3 k x3 true xZ xP yj yu yw yt yg xW) else (if yg = 0 then (aJ.j3 k x3 true xZ xP yj yu yw yt yg xW) else (aJ.j3 k x3 (decide (yg > 3600)) xZ xP yj yu yw yt yg xW)))
def aJ.j3 : Nat → Int → Bool → Int → List (S103) → ByteArray → ByteArray → ByteArray → Int → Int → List (S104) → Option (Int)
 | 0,_,_,_,_,_,_,_,_,_,_=>none
 | k + 1,x3,Jj,xZ,xP,yj,yu,yw,yt,yg,xW=>if Jj = true then (some 7) else (if (xW.length : Int) = 0 then (some 16) else (if (xW.length : Int) > 16 then (some 18) else (aJ.l1 k x3 0 xZ xP yj yu yw yt yg xW)))
def aJ.l1 : Nat → Int → Int → Int → List (S103) → ByteArray → ByteArray → ByteArray → Int → Int → List (S104) → Option (Int)
 | 0,_,_,_,_,_,_,_,_,_,_=>none
 | k + 1,x3,x5,xZ,xP,yj,yu,yw,yt,yg,xW=>if x5 < (xW.length : Int) then (if 0 ≤ x5 then ((bC.f k ((dD xW x5).f0)).bind fun t194=>(if t194 = true then (aJ.l2 k x3 x5 0 xZ xP yj yu yw yt yg xW) else (some 13))) else (none)) else (aJ.l0 k (wrap64 (x3 + 1)) xZ xP)
def aJ.l2 : Nat → Int → Int → Int → Int → List (S103) → ByteArray → ByteArray → ByteArray → Int → Int → List (S104) → Option (Int)
 | 0,_,_,_,_,_,_,_,_,_,_,_=>none
 | k + 1,x3,x5,x6,xZ,xP,yj,yu,yw,yt,yg,xW=>if x6 < x5 then (if 0 ≤ x6 then (if x6 < (xW.length : Int) then (if 0 ≤ x5 then (if x5 < (xW.length : Int) then (if ((dD xW x6).f0).toList = ((dD xW x5).f0).toList then (some 8) else (aJ.l2 k x3 x5 (wrap64 (x6 + 1)) xZ xP yj yu yw yt yg xW)) else (none)) else (none)) else (none)) else (none)) else (if 0 ≤ x5 then (if x5 < (xW.length : Int) then ((bR.f k ((dD xW x5).f1)).bind fun t198=>(if t198 = true then (aJ.l1 k x3 (wrap64 (x5 + 1)) xZ xP yj yu yw yt yg xW) else (some 6))) else (none)) else (none))
end
def aJ.f (k : Nat) (xS : Int) (xI : List (S103)) : Option (Int):=if (xI.length : Int) > 1024 then (some 18) else (aJ.l0 k 0 xS xI)
theorem aJ.dO : ∀ k,(∀ y0 y1 y2,LeO (aJ.l0 k y0 y1 y2) (aJ.l0 (k + 1) y0 y1 y2)) ∧ (∀ y0 y1 y2 y3 y4 y5 y6 y7 y8 y9,LeO (aJ.j1 k y0 y1 y2 y3 y4 y5 y6 y7 y8 y9) (aJ.j1 (k + 1) y0 y1 y2 y3 y4 y5 y6 y7 y8 y9)) ∧ (∀ y0 y1 y2 y3 y4 y5 y6 y7 y8 y9,LeO (aJ.j2 k y0 y1 y2 y3 y4 y5 y6 y7 y8 y9) (aJ.j2 (k + 1) y0 y1 y2 y3 y4 y5 y6 y7 y8 y9)) ∧ (∀ y0 y1 y2 y3 y4 y5 y6 y7 y8 y9,LeO (aJ.j3 k y0 y1 y2 y3 y4 y5 y6 y7 y8 y9) (aJ.j3 (k + 1) y0 y1 y2 y3 y4 y5 y6 y7 y8 y9)) ∧ (∀ y0 y1 y2 y3 y4 y5 y6 y7 y8 y9,LeO (aJ.l1 k y0 y1 y2 y3 y4 y5 y6 y7 y8 y9) (aJ.l1 (k + 1) y0 y1 y2 y3 y4 y5 y6 y7 y8 y9)) ∧ (∀ y0 y1 y2 y3 y4 y5 y6 y7 y8 y9 Ie,LeO (aJ.l2 k y0 y1 y2 y3 y4 y5 y6 y7 y8 y9 Ie) (aJ.l2 (k + 1) y0 y1 y2 y3 y4 y5 y6 y7 y8 y9 Ie))
 | 0=>⟨fun _ _ _ r h=>by simp [aJ.l0] at h,fun _ _ _ _ _ _ _ _ _ _ r h=>by simp [aJ.j1] at h,fun _ _ _ _ _ _ _ _ _ _ r h=>by simp [aJ.j2] at h,fun _ _ _ _ _ _ _ _ _ _ r h=>by simp [aJ.j3] at h,fun _ _ _ _ _ _ _ _ _ _ r h=>by simp [aJ.l1] at h,fun _ _ _ _ _ _ _ _ _ _ _ r h=>by simp [aJ.l2] at h⟩
 | k + 1=>by
  obtain ⟨CW,ih1,ih2,ih3,ih4,ih5⟩:=aJ.dO k
  refine ⟨?_,?_,?_,?_,?_,?_⟩
  ·intro y0 y1 y2
   unfold aJ.l0
   repeat' first
   | (with_reducible exact CW _ _ _)
   | (with_reducible exact ih1 _ _ _ _ _ _ _ _ _ _)
   | (with_reducible exact ih2 _ _ _ _ _ _ _ _ _ _)
   | (with_reducible exact ih3 _ _ _ _ _ _ _ _ _ _)
   | (with_reducible exact ih4 _ _ _ _ _ _ _ _ _ _)
   | (with_reducible exact ih5 _ _ _ _ _ _ _ _ _ _ _)
   | (with_reducible exact aR.mono _ _)
   | (with_reducible exact bR.mono _ _)
   | (with_reducible exact bC.mono _ _)
   | (with_reducible exact aY.mono _ _)
   | (with_reducible exact LeO.refl _)
   | (with_reducible exact LeO.none _)
   | (with_reducible refine LeO.ite ?_ ?_)
   | (with_reducible refine LeO.bind ?_ (fun _=>?_))
   | exact CW _ _ _
   | exact ih1 _ _ _ _ _ _ _ _ _ _
   | exact ih2 _ _ _ _ _ _ _ _ _ _
   | exact ih3 _ _ _ _ _ _ _ _ _ _
   | exact ih4 _ _ _ _ _ _ _ _ _ _
   | exact ih5 _ _ _ _ _ _ _ _ _ _ _
   | exact aR.mono _ _
   | exact bR.mono _ _
   | exact bC.mono _ _
   | exact aY.mono _ _
   | exact LeO.none _
   | refine LeO.ite ?_ ?_
   | refine LeO.bind ?_ (fun _=>?_)
  ·intro y0 y1 y2 y3 y4 y5 y6 y7 y8 y9
   unfold aJ.j1
   repeat' first
   | (with_reducible exact CW _ _ _)
   | (with_reducible exact ih1 _ _ _ _ _ _ _ _ _ _)
   | (with_reducible exact ih2 _ _ _ _ _ _ _ _ _ _)
   | (with_reducible exact ih3 _ _ _ _ _ _ _ _ _ _)
   | (with_reducible exact ih4 _ _ _ _ _ _ _ _ _ _)
   | (with_reducible exact ih5 _ _ _ _ _ _ _ _ _ _ _)
   | (with_reducible exact aR.mono _ _)
   | (with_reducible exact bR.mono _ _)
   | (with_reducible exact bC.mono _ _)
   | (with_reducible exact aY.mono _ _)
   | (with_reducible exact LeO.refl _)
   | (with_reducible exact LeO.none _)
   | (with_reducible refine LeO.ite ?_ ?_)
   | (with_reducible refine LeO.bind ?_ (fun _=>?_))
   | exact CW _ _ _
   | exact ih1 _ _ _ _ _ _ _ _ _ _
   | exact ih2 _ _ _ _ _ _ _ _ _ _
   | exact ih3 _ _ _ _ _ _ _ _ _ _
   | exact ih4 _ _ _ _ _ _ _ _ _ _
   | exact ih5 _ _ _ _ _ _ _ _ _ _ _
   | exact aR.mono _ _
   | exact bR.mono _ _
   | exact bC.mono _ _
   | exact aY.mono _ _
   | exact LeO.none _
   | refine LeO.ite ?_ ?_
   | refine LeO.bind ?_ (fun _=>?_)
  ·intro y0 y1 y2 y3 y4 y5 y6 y7 y8 y9
   unfold aJ.j2
   repeat' first
   | (with_reducible exact CW _ _ _)
   | (with_reducible exact ih1 _ _ _ _ _ _ _ _ _ _)
   | (with_reducible exact ih2 _ _ _ _ _ _ _ _ _ _)
   | (with_reducible exact ih3 _ _ _ _ _ _ _ _ _ _)
   | (with_reducible exact ih4 _ _ _ _ _ _ _ _ _ _)
   | (with_reducible exact ih5 _ _ _ _ _ _ _ _ _ _ _)
   | (with_reducible exact aR.mono _ _)
   | (with_reducible exact bR.mono _ _)
   | (with_reducible exact bC.mono _ _)
   | (with_reducible exact aY.mono _ _)
   | (with_reducible exact LeO.refl _)
   | (with_reducible exact LeO.none _)
   | (with_reducible refine LeO.ite ?_ ?_)
   | (with_reducible refine LeO.bind ?_ (fun _=>?_))
   | exact CW _ _ _
   | exact ih1 _ _ _ _ _ _ _ _ _ _
   | exact ih2 _ _ _ _ _ _ _ _ _ _
   | exact ih3 _ _ _ _ _ _ _ _ _ _
   | exact ih4 _ _ _ _ _ _ _ _ _ _
   | exact ih5 _ _ _ _ _ _ _ _ _ _ _
   | exact aR.mono _ _
   | exact bR.mono _ _
   | exact bC.mono _ _
   | exact aY.mono _ _
   | exact LeO.none _
   | refine LeO.ite ?_ ?_
   | refine LeO.bind ?_ (fun _=>?_)
  ·intro y0 y1 y2 y3 y4 y5 y6 y7 y8 y9
   unfold aJ.j3
   repeat' first
   | (with_reducible exact CW _ _ _)
   | (with_reducible exact ih1 _ _ _ _ _ _ _ _ _ _)
   | (with_reducible exact ih2 _ _ _ _ _ _ _ _ _ _)
   | (with_reducible exact ih3 _ _ _ _ _ _ _ _ _ _)
   | (with_reducible exact ih4 _ _ _ _ _ _ _ _ _ _)
   | (with_reducible exact ih5 _ _ _ _ _ _ _ _ _ _ _)
   | (with_reducible exact aR.mono _ _)
   | (with_reducible exact bR.mono _ _)
   | (with_reducible exact bC.mono _ _)
   | (with_reducible exact aY.mono _ _)
   | (with_reducible exact LeO.refl _)
   | (with_reducible exact LeO.none _)
   | (with_reducible refine LeO.ite ?_ ?_)
   | (with_reducible refine LeO.bind ?_ (fun _=>?_))
   | exact CW _ _ _
   | exact ih1 _ _ _ _ _ _ _ _ _ _
   | exact ih2 _ _ _ _ _ _ _ _ _ _
   | exact ih3 _ _ _ _ _ _ _ _ _ _
   | exact ih4 _ _ _ _ _ _ _ _ _ _
   | exact ih5 _ _ _ _ _ _ _ _ _ _ _
   | exact aR.mono _ _
   | exact bR.mono _ _
   | exact bC.mono _ _
   | exact aY.mono _ _
   | exact LeO.none _
   | refine LeO.ite ?_ ?_
   | refine LeO.bind ?_ (fun _=>?_)
  ·intro y0 y1 y2 y3 y4 y5 y6 y7 y8 y9
   unfold aJ.l1
   repeat' first
   | (with_reducible exact CW _ _ _)
   | (with_reducible exact ih1 _ _ _ _ _ _ _ _ _ _)
   | (with_reducible exact ih2 _ _ _ _ _ _ _ _ _ _)
   | (with_reducible exact ih3 _ _ _ _ _ _ _ _ _ _)
   | (with_reducible exact ih4 _ _ _ _ _ _ _ _ _ _)
   | (with_reducible exact ih5 _ _ _ _ _ _ _ _ _ _ _)
   | (with_reducible exact aR.mono _ _)
   | (with_reducible exact bR.mono _ _)
   | (with_reducible exact bC.mono _ _)
   | (with_reducible exact aY.mono _ _)
   | (with_reducible exact LeO.refl _)
   | (with_reducible exact LeO.none _)
   | (with_reducible refine LeO.ite ?_ ?_)
   | (with_reducible refine LeO.bind ?_ (fun _=>?_))
   | exact CW _ _ _
   | exact ih1 _ _ _ _ _ _ _ _ _ _
   | exact ih2 _ _ _ _ _ _ _ _ _ _
   | exact ih3 _ _ _ _ _ _ _ _ _ _
   | exact ih4 _ _ _ _ _ _ _ _ _ _
   | exact ih5 _ _ _ _ _ _ _ _ _ _ _
   | exact aR.mono _ _
   | exact bR.mono _ _
   | exact bC.mono _ _
   | exact aY.mono _ _
   | exact LeO.none _
   | refine LeO.ite ?_ ?_
   | refine LeO.bind ?_ (fun _=>?_)
  ·intro y0 y1 y2 y3 y4 y5 y6 y7 y8 y9 Ie
   unfold aJ.l2
   repeat' first
   | (with_reducible exact CW _ _ _)
   | (with_reducible exact ih1 _ _ _ _ _ _ _ _ _ _)
   | (with_reducible exact ih2 _ _ _ _ _ _ _ _ _ _)
   | (with_reducible exact ih3 _ _ _ _ _ _ _ _ _ _)
   | (with_reducible exact ih4 _ _ _ _ _ _ _ _ _ _)
   | (with_reducible exact ih5 _ _ _ _ _ _ _ _ _ _ _)
   | (with_reducible exact aR.mono _ _)
   | (with_reducible exact bR.mono _ _)
   | (with_reducible exact bC.mono _ _)
   | (with_reducible exact aY.mono _ _)
   | (with_reducible exact LeO.refl _)
   | (with_reducible exact LeO.none _)
   | (with_reducible refine LeO.ite ?_ ?_)
   | (with_reducible refine LeO.bind ?_ (fun _=>?_))
   | exact CW _ _ _
   | exact ih1 _ _ _ _ _ _ _ _ _ _
   | exact ih2 _ _ _ _ _ _ _ _ _ _
   | exact ih3 _ _ _ _ _ _ _ _ _ _
   | exact ih4 _ _ _ _ _ _ _ _ _ _
   | exact ih5 _ _ _ _ _ _ _ _ _ _ _
   | exact aR.mono _ _
   | exact bR.mono _ _
   | exact bC.mono _ _
   | exact aY.mono _ _
   | exact LeO.none _
   | refine LeO.ite ?_ ?_
   | refine LeO.bind ?_ (fun _=>?_)
theorem aJ.mono : ∀ a0 a1 k,LeO (aJ.f k a0 a1) (aJ.f (k + 1) a0 a1):=by
 intro a0 a1 k
 obtain ⟨CW,ih1,ih2,ih3,ih4,ih5⟩:=aJ.dO k
 unfold aJ.f
 repeat' first
   | (with_reducible exact CW _ _ _)
   | (with_reducible exact ih1 _ _ _ _ _ _ _ _ _ _)
   | (with_reducible exact ih2 _ _ _ _ _ _ _ _ _ _)
   | (with_reducible exact ih3 _ _ _ _ _ _ _ _ _ _)
   | (with_reducible exact ih4 _ _ _ _ _ _ _ _ _ _)
   | (with_reducible exact ih5 _ _ _ _ _ _ _ _ _ _ _)
   | (with_reducible exact aR.mono _ _)
   | (with_reducible exact bR.mono _ _)
   | (with_reducible exact bC.mono _ _)
   | (with_reducible exact aY.mono _ _)
   | (with_reducible exact LeO.refl _)
   | (with_reducible exact LeO.none _)
   | (with_reducible refine LeO.ite ?_ ?_)
   | (with_reducible refine LeO.bind ?_ (fun _=>?_))
   | exact CW _ _ _
   | exact ih1 _ _ _ _ _ _ _ _ _ _
   | exact ih2 _ _ _ _ _ _ _ _ _ _
   | exact ih3 _ _ _ _ _ _ _ _ _ _
   | exact ih4 _ _ _ _ _ _ _ _ _ _
   | exact ih5 _ _ _ _ _ _ _ _ _ _ _
   | exact aR.mono _ _
   | exact bR.mono _ _
   | exact bC.mono _ _
   | exact aY.mono _ _
   | exact LeO.none _
   | refine LeO.ite ?_ ?_
   | refine LeO.bind ?_ (fun _=>?_)
set_option maxHeartbeats 8000000 in
set_option maxRecDepth 100000 in
theorem aJ.calls (k : Nat) (xS : Int) (zM : Option Addr) (yh : Nat) (xI : List (S103)) (r : Int) (w : World) (EK : Kd.C fA w zM xI.length xI) (EL : xI.length ≤ yh) (h : aJ.f k xS xI = some r) :
  Calls Tryd.prog 25 #[.agg #[.int .u64 xS,.slice zM xI.length yh]] w fun e w'=>e = .returned (.int .i64 r) ∧ Below w.heap.size w w':=by
 have Jk:=Tryd.underlying53
 have Il:=Tryd.underlying103
 have EM:=Aside0.mk EK
 have Im:=Aside0.mk EL
 clear EK EL
 have HB:=Aside0.mk (Below.refl w.heap.size w)
 have H : (if (xI.length : Int) > 1024 then (some 18) else (aJ.l0 k 0 xS xI)) = some r:=h
 clear h
 by_cases c2 : (xI.length : Int) > 1024
 ·rw [if_pos c2] at H
  have c2b0 : decide (1024 < (xI.length : Int)) = true:=decide_eq_true c2
  have c2b1 : decide (1024 < xI.length) = true:=decide_eq_true (by omega)
  clear c2
  obtain rfl:=Option.some.inj H
  go_enter Tryd.func25,Tryd.ntmps25
  go_wp2_with (first|((with_reducible refine dN (N:=1) rfl ?_);refine dK ?hg (N:=1) ?hd (cs:=#[.int .u64 xS,.slice zM xI.length yh]) (t:=53) ?hr ?_;(case hd=>rfl);(case hg=>rfl);(case hr=>first|(go_simp;done)|(go_simp;rfl));intro xQ hg w3 hbox hb;have yB:=Aside0.mk (aQ (by repeat (first|(with_reducible first|exact HB.out|apply ay|apply aj|apply av)|exact HB.out)) hb);have yC:=Aside0.mk (hbox);have yD:=Aside0.mk ((by rw [hg];exact (aV (by repeat (first|(with_reducible first|exact HB.out|apply ay|apply aj|apply av)|exact HB.out))) : w.heap.size ≤ xQ));have Bf:=Aside0.mk ((by rw [hg];exact (aV (by repeat (first|(with_reducible first|exact HB.out|apply ay|apply aj|apply av)|exact HB.out))) : w.heap.size ≤ xQ));clear HB;have HB:=yB;have xO:=yC;have CP:=yD;have xU:=Bf;clear yB yC yD Bf;clear hb hbox hg;have zN : w3.cell? ⟨xQ,0,none⟩ = some (.int .u64 xS):=(au xO.out 0).trans rfl;have zO : w3.cell? ⟨xQ,1,none⟩ = some (.slice zM xI.length yh):=(au xO.out 1).trans rfl;have zP:=aH xO.out 0;have zQ:=aH xO.out 1))
  repeat (go_quiet (first|((with_reducible refine dN (N:=1) rfl ?_);refine dK ?hg (N:=1) ?hd (cs:=#[.int .u64 xS,.slice zM xI.length yh]) (t:=53) ?hr ?_;(case hd=>rfl);(case hg=>rfl);(case hr=>first|(go_simp;done)|(go_simp;rfl));intro xQ hg w3 hbox hb;have yB:=Aside0.mk (aQ (by repeat (first|(with_reducible first|exact HB.out|apply ay|apply aj|apply av)|exact HB.out)) hb);have yC:=Aside0.mk (hbox);have yD:=Aside0.mk ((by rw [hg];exact (aV (by repeat (first|(with_reducible first|exact HB.out|apply ay|apply aj|apply av)|exact HB.out))) : w.heap.size ≤ xQ));have Bf:=Aside0.mk ((by rw [hg];exact (aV (by repeat (first|(with_reducible first|exact HB.out|apply ay|apply aj|apply av)|exact HB.out))) : w.heap.size ≤ xQ));clear HB;have HB:=yB;have xO:=yC;have CP:=yD;have xU:=Bf;clear yB yC yD Bf;clear hb hbox hg;have zN : w3.cell? ⟨xQ,0,none⟩ = some (.int .u64 xS):=(au xO.out 0).trans rfl;have zO : w3.cell? ⟨xQ,1,none⟩ = some (.slice zM xI.length yh):=(au xO.out 1).trans rfl;have zP:=aH xO.out 0;have zQ:=aH xO.out 1));try go_wp2_with (first|((with_reducible refine dN (N:=1) rfl ?_);refine dK ?hg (N:=1) ?hd (cs:=#[.int .u64 xS,.slice zM xI.length yh]) (t:=53) ?hr ?_;(case hd=>rfl);(case hg=>rfl);(case hr=>first|(go_simp;done)|(go_simp;rfl));intro xQ hg w3 hbox hb;have yB:=Aside0.mk (aQ (by repeat (first|(with_reducible first|exact HB.out|apply ay|apply aj|apply av)|exact HB.out)) hb);have yC:=Aside0.mk (hbox);have yD:=Aside0.mk ((by rw [hg];exact (aV (by repeat (first|(with_reducible first|exact HB.out|apply ay|apply aj|apply av)|exact HB.out))) : w.heap.size ≤ xQ));have Bf:=Aside0.mk ((by rw [hg];exact (aV (by repeat (first|(with_reducible first|exact HB.out|apply ay|apply aj|apply av)|exact HB.out))) : w.heap.size ≤ xQ));clear HB;have HB:=yB;have xO:=yC;have CP:=yD;have xU:=Bf;clear yB yC yD Bf;clear hb hbox hg;have zN : w3.cell? ⟨xQ,0,none⟩ = some (.int .u64 xS):=(au xO.out 0).trans rfl;have zO : w3.cell? ⟨xQ,1,none⟩ = some (.slice zM xI.length yh):=(au xO.out 1).trans rfl;have zP:=aH xO.out 0;have zQ:=aH xO.out 1)))
  go_ret
  exact ⟨by first|rfl|(simp [aZ,bf] <;> rfl)|(simp [*,aZ,bf] <;> rfl),by repeat (first|(with_reducible first|exact HB.out|apply ay|apply aj|apply av|refine ak ?_ xU.out)|exact HB.out)⟩
 ·rw [if_neg c2] at H
  have c2b0 : decide (1024 < (xI.length : Int)) = false:=decide_eq_false c2
  have c2b1 : decide (1024 < xI.length) = false:=decide_eq_false (by omega)
  clear c2
  have H':=Aside0.mk H
  clear H
  go_enter Tryd.func25,Tryd.ntmps25
  go_wp2_with (first|((with_reducible refine dN (N:=1) rfl ?_);refine dK ?hg (N:=1) ?hd (cs:=#[.int .u64 xS,.slice zM xI.length yh]) (t:=53) ?hr ?_;(case hd=>rfl);(case hg=>rfl);(case hr=>first|(go_simp;done)|(go_simp;rfl));intro xQ hg w5 hbox hb;have yB:=Aside0.mk (aQ (by repeat (first|(with_reducible first|exact HB.out|apply ay|apply aj|apply av)|exact HB.out)) hb);have yC:=Aside0.mk (hbox);have yD:=Aside0.mk ((by rw [hg];exact (aV (by repeat (first|(with_reducible first|exact HB.out|apply ay|apply aj|apply av)|exact HB.out))) : w.heap.size ≤ xQ));have Bf:=Aside0.mk ((by rw [hg];exact (aV (by repeat (first|(with_reducible first|exact HB.out|apply ay|apply aj|apply av)|exact HB.out))) : w.heap.size ≤ xQ));clear HB;have HB:=yB;have xO:=yC;have CP:=yD;have xU:=Bf;clear yB yC yD Bf;clear hb hbox hg;have zR : w5.cell? ⟨xQ,0,none⟩ = some (.int .u64 xS):=(au xO.out 0).trans rfl;have zS : w5.cell? ⟨xQ,1,none⟩ = some (.slice zM xI.length yh):=(au xO.out 1).trans rfl;have zT:=aH xO.out 0;have zU:=aH xO.out 1))
  repeat (go_quiet (first|((with_reducible refine dN (N:=1) rfl ?_);refine dK ?hg (N:=1) ?hd (cs:=#[.int .u64 xS,.slice zM xI.length yh]) (t:=53) ?hr ?_;(case hd=>rfl);(case hg=>rfl);(case hr=>first|(go_simp;done)|(go_simp;rfl));intro xQ hg w5 hbox hb;have yB:=Aside0.mk (aQ (by repeat (first|(with_reducible first|exact HB.out|apply ay|apply aj|apply av)|exact HB.out)) hb);have yC:=Aside0.mk (hbox);have yD:=Aside0.mk ((by rw [hg];exact (aV (by repeat (first|(with_reducible first|exact HB.out|apply ay|apply aj|apply av)|exact HB.out))) : w.heap.size ≤ xQ));have Bf:=Aside0.mk ((by rw [hg];exact (aV (by repeat (first|(with_reducible first|exact HB.out|apply ay|apply aj|apply av)|exact HB.out))) : w.heap.size ≤ xQ));clear HB;have HB:=yB;have xO:=yC;have CP:=yD;have xU:=Bf;clear yB yC yD Bf;clear hb hbox hg;have zR : w5.cell? ⟨xQ,0,none⟩ = some (.int .u64 xS):=(au xO.out 0).trans rfl;have zS : w5.cell? ⟨xQ,1,none⟩ = some (.slice zM xI.length yh):=(au xO.out 1).trans rfl;have zT:=aH xO.out 0;have zU:=aH xO.out 1));try go_wp2_with (first|((with_reducible refine dN (N:=1) rfl ?_);refine dK ?hg (N:=1) ?hd (cs:=#[.int .u64 xS,.slice zM xI.length yh]) (t:=53) ?hr ?_;(case hd=>rfl);(case hg=>rfl);(case hr=>first|(go_simp;done)|(go_simp;rfl));intro xQ hg w5 hbox hb;have yB:=Aside0.mk (aQ (by repeat (first|(with_reducible first|exact HB.out|apply ay|apply aj|apply av)|exact HB.out)) hb);have yC:=Aside0.mk (hbox);have yD:=Aside0.mk ((by rw [hg];exact (aV (by repeat (first|(with_reducible first|exact HB.out|apply ay|apply aj|apply av)|exact HB.out))) : w.heap.size ≤ xQ));have Bf:=Aside0.mk ((by rw [hg];exact (aV (by repeat (first|(with_reducible first|exact HB.out|apply ay|apply aj|apply av)|exact HB.out))) : w.heap.size ≤ xQ));clear HB;have HB:=yB;have xO:=yC;have CP:=yD;have xU:=Bf;clear yB yC yD Bf;clear hb hbox hg;have zR : w5.cell? ⟨xQ,0,none⟩ = some (.int .u64 xS):=(au xO.out 0).trans rfl;have zS : w5.cell? ⟨xQ,1,none⟩ = some (.slice zM xI.length yh):=(au xO.out 1).trans rfl;have zT:=aH xO.out 0;have zU:=aH xO.out 1)))
  go_loopg [3] k (fun kq v3 w'=>∃ (xJ : Int),v3 = .int .i64 xJ ∧ Aside0 (aJ.l0 kq xJ xS xI = some r) ∧ Aside0 (kq ≤ k) ∧ Aside0 (w'.heap[xQ]? = some (.cells #[.int .u64 xS,(.slice zM xI.length yh)] 53 (0,0))) ∧ Aside0 (Below w.heap.size w w'))
  case atStart=>exact ⟨(0),(by first|rfl|(simp;done)|(simp [*];done)),H',⟨Nat.le_refl _⟩,⟨by (with_reducible repeat (first|apply aC|apply aG|apply aA));exact xO.out⟩,⟨by repeat (first|(with_reducible first|exact HB.out|apply ay|apply aj|apply av|refine ak ?_ xU.out)|exact HB.out)⟩⟩
  case round =>
   clear H'
   try clear c2
   try clear c2b0
   try clear c2b1
   try clear p2
   try clear zN
   try clear zO
   try clear zR
   try clear zS
   try clear zP
   try clear zQ
   try clear zT
   try clear zU
   obtain ⟨xJ,rfl,HA,Df,xO,HB⟩:=hrel
   cases gk with
   | zero=>exact absurd HA.out (by simp [aJ.l0])
   | succ k1 =>
    have H:=HA.out
    clear HA
    simp only [aJ.l0] at H
    by_cases c7 : xJ < (xI.length : Int)
    ·rw [if_pos c7] at H
     have c7b0 : decide (xJ < (xI.length : Int)) = true:=decide_eq_true c7
     clear c7
     by_cases c8 : 0 ≤ xJ
     ·rw [if_pos c8] at H
      have c8b0 : decide (0 ≤ xJ) = true:=decide_eq_true c8
      clear c8
      have Ig:=Aside0.mk H
      clear H
      have zW : wr.cell? ⟨xQ,0,none⟩ = some (.int .u64 xS):=(au xO.out 0).trans rfl
      have zX : wr.cell? ⟨xQ,1,none⟩ = some (.slice zM xI.length yh):=(au xO.out 1).trans rfl
      have zY:=aH xO.out 0
      have zZ:=aH xO.out 1
      have CQ : 0 ≤ (xJ : Int):=of_decide_eq_true (by first|(with_reducible assumption)|assumption)
      have CS : xJ < (xI.length : Int):=of_decide_eq_true (by first|(with_reducible assumption)|assumption)
      obtain ⟨yx,xY,xX,e187,yE,yF,yG,yH,yI,yJ,Dh,Di⟩:=jM EM.out xJ CQ CS
      cases e187
      replace yE:=(HB.out.cell (World.block_lt_of_cell? w _ yE)).trans yE
      replace yF:=(HB.out.cell (World.block_lt_of_cell? w _ yF)).trans yF
      replace yG:=(HB.out.cell (World.block_lt_of_cell? w _ yG)).trans yG
      replace yH:=(HB.out.cell (World.block_lt_of_cell? w _ yH)).trans yH
      replace yI:=(HB.out.cell (World.block_lt_of_cell? w _ yI)).trans yI
      replace yJ:=(HB.out.cell (World.block_lt_of_cell? w _ yJ)).trans yJ
      have yK:=Aside0.mk Di
      have FH:=Aside0.mk Dh
      clear Di Dh
      replace CQ:=eq_true CQ
      replace CS:=eq_true CS
      go_upto_region 7 with (first|((with_reducible refine dN (N:=4) rfl ?_);refine dK ?hg (N:=4) ?hd (cs:=#[.string (⟨#[]⟩ : ByteArray),.string (⟨#[]⟩ : ByteArray),.string (⟨#[]⟩ : ByteArray),.int .u8 0,.int .u16 0,.slice none 0 0]) (t:=103) ?hr ?_;(case hd=>rfl);(case hg=>rfl);(case hr=>first|(go_simp;done)|(go_simp;rfl));intro xL hg zK hbox hb;have yB:=Aside0.mk (aK (g:=xQ) (o:=.cells #[.int .u64 xS,.slice (some yx) xI.length yh] 53 (0,0)) (bk_ xO.out) hb);have yC:=Aside0.mk (aQ (by repeat (first|(with_reducible first|exact HB.out|apply ay|apply aj|apply av|refine ak ?_ xU.out)|exact HB.out)) hb);have yD:=Aside0.mk (hbox);have Bf:=Aside0.mk ((by rw [hg];exact (aV (by repeat (first|(with_reducible first|exact HB.out|apply ay|apply aj|apply av|refine ak ?_ xU.out)|exact HB.out))) : w.heap.size ≤ xL));have EN:=Aside0.mk ((by rw [hg];exact (aV (by repeat (first|(with_reducible first|exact HB.out|apply ay|apply aj|apply av|refine ak ?_ xU.out)|exact HB.out))) : w.heap.size ≤ xL));have EO:=Aside0.mk ((by rw [hg];exact Nat.ne_of_lt (bP (g:=xQ) (o:=.cells #[.int .u64 xS,.slice (some yx) xI.length yh] 53 (0,0)) (bk_ xO.out)) : xQ ≠ xL));have EP:=Aside0.mk ((by rw [hg];exact Nat.ne_of_gt (bP (g:=xQ) (o:=.cells #[.int .u64 xS,.slice (some yx) xI.length yh] 53 (0,0)) (bk_ xO.out)) : xL ≠ xQ));clear xO;clear HB;have xO:=yB;have HB:=yC;have xK:=yD;have ER:=Bf;have yc:=EN;have xM:=EO;have xR:=EP;clear yB yC yD Bf EN EO EP;clear hb hbox hg;have ES:=xR.out;have ET:=xM.out;have yN : zK.cell? ⟨xL,0,none⟩ = some (.string (⟨#[]⟩ : ByteArray)):=(au xK.out 0).trans rfl;have yO : zK.cell? ⟨xL,1,none⟩ = some (.string (⟨#[]⟩ : ByteArray)):=(au xK.out 1).trans rfl;have yP : zK.cell? ⟨xL,2,none⟩ = some (.string (⟨#[]⟩ : ByteArray)):=(au xK.out 2).trans rfl;have yQ : zK.cell? ⟨xL,3,none⟩ = some (.int .u8 0):=(au xK.out 3).trans rfl;have yR : zK.cell? ⟨xL,4,none⟩ = some (.int .u16 0):=(au xK.out 4).trans rfl;have yS : zK.cell? ⟨xL,5,none⟩ = some (.slice none 0 0):=(au xK.out 5).trans rfl;have yT:=aH xK.out 0;have yU:=aH xK.out 1;have yV:=aH xK.out 2;have yX:=aH xK.out 3;have yY:=aH xK.out 4;have yZ:=aH xK.out 5))
      repeat (go_quiet (first|((with_reducible refine dN (N:=4) rfl ?_);refine dK ?hg (N:=4) ?hd (cs:=#[.string (⟨#[]⟩ : ByteArray),.string (⟨#[]⟩ : ByteArray),.string (⟨#[]⟩ : ByteArray),.int .u8 0,.int .u16 0,.slice none 0 0]) (t:=103) ?hr ?_;(case hd=>rfl);(case hg=>rfl);(case hr=>first|(go_simp;done)|(go_simp;rfl));intro xL hg zK hbox hb;have yB:=Aside0.mk (aK (g:=xQ) (o:=.cells #[.int .u64 xS,.slice (some yx) xI.length yh] 53 (0,0)) (bk_ xO.out) hb);have yC:=Aside0.mk (aQ (by repeat (first|(with_reducible first|exact HB.out|apply ay|apply aj|apply av|refine ak ?_ xU.out)|exact HB.out)) hb);have yD:=Aside0.mk (hbox);have Bf:=Aside0.mk ((by rw [hg];exact (aV (by repeat (first|(with_reducible first|exact HB.out|apply ay|apply aj|apply av|refine ak ?_ xU.out)|exact HB.out))) : w.heap.size ≤ xL));have EN:=Aside0.mk ((by rw [hg];exact (aV (by repeat (first|(with_reducible first|exact HB.out|apply ay|apply aj|apply av|refine ak ?_ xU.out)|exact HB.out))) : w.heap.size ≤ xL));have EO:=Aside0.mk ((by rw [hg];exact Nat.ne_of_lt (bP (g:=xQ) (o:=.cells #[.int .u64 xS,.slice (some yx) xI.length yh] 53 (0,0)) (bk_ xO.out)) : xQ ≠ xL));have EP:=Aside0.mk ((by rw [hg];exact Nat.ne_of_gt (bP (g:=xQ) (o:=.cells #[.int .u64 xS,.slice (some yx) xI.length yh] 53 (0,0)) (bk_ xO.out)) : xL ≠ xQ));clear xO;clear HB;have xO:=yB;have HB:=yC;have xK:=yD;have ER:=Bf;have yc:=EN;have xM:=EO;have xR:=EP;clear yB yC yD Bf EN EO EP;clear hb hbox hg;have ES:=xR.out;have ET:=xM.out;have yN : zK.cell? ⟨xL,0,none⟩ = some (.string (⟨#[]⟩ : ByteArray)):=(au xK.out 0).trans rfl;have yO : zK.cell? ⟨xL,1,none⟩ = some (.string (⟨#[]⟩ : ByteArray)):=(au xK.out 1).trans rfl;have yP : zK.cell? ⟨xL,2,none⟩ = some (.string (⟨#[]⟩ : ByteArray)):=(au xK.out 2).trans rfl;have yQ : zK.cell? ⟨xL,3,none⟩ = some (.int .u8 0):=(au xK.out 3).trans rfl;have yR : zK.cell? ⟨xL,4,none⟩ = some (.int .u16 0):=(au xK.out 4).trans rfl;have yS : zK.cell? ⟨xL,5,none⟩ = some (.slice none 0 0):=(au xK.out 5).trans rfl;have yT:=aH xK.out 0;have yU:=aH xK.out 1;have yV:=aH xK.out 2;have yX:=aH xK.out 3;have yY:=aH xK.out 4;have yZ:=aH xK.out 5));go_upto_region 7 with (first|((with_reducible refine dN (N:=4) rfl ?_);refine dK ?hg (N:=4) ?hd (cs:=#[.string (⟨#[]⟩ : ByteArray),.string (⟨#[]⟩ : ByteArray),.string (⟨#[]⟩ : ByteArray),.int .u8 0,.int .u16 0,.slice none 0 0]) (t:=103) ?hr ?_;(case hd=>rfl);(case hg=>rfl);(case hr=>first|(go_simp;done)|(go_simp;rfl));intro xL hg zK hbox hb;have yB:=Aside0.mk (aK (g:=xQ) (o:=.cells #[.int .u64 xS,.slice (some yx) xI.length yh] 53 (0,0)) (bk_ xO.out) hb);have yC:=Aside0.mk (aQ (by repeat (first|(with_reducible first|exact HB.out|apply ay|apply aj|apply av|refine ak ?_ xU.out)|exact HB.out)) hb);have yD:=Aside0.mk (hbox);have Bf:=Aside0.mk ((by rw [hg];exact (aV (by repeat (first|(with_reducible first|exact HB.out|apply ay|apply aj|apply av|refine ak ?_ xU.out)|exact HB.out))) : w.heap.size ≤ xL));have EN:=Aside0.mk ((by rw [hg];exact (aV (by repeat (first|(with_reducible first|exact HB.out|apply ay|apply aj|apply av|refine ak ?_ xU.out)|exact HB.out))) : w.heap.size ≤ xL));have EO:=Aside0.mk ((by rw [hg];exact Nat.ne_of_lt (bP (g:=xQ) (o:=.cells #[.int .u64 xS,.slice (some yx) xI.length yh] 53 (0,0)) (bk_ xO.out)) : xQ ≠ xL));have EP:=Aside0.mk ((by rw [hg];exact Nat.ne_of_gt (bP (g:=xQ) (o:=.cells #[.int .u64 xS,.slice (some yx) xI.length yh] 53 (0,0)) (bk_ xO.out)) : xL ≠ xQ));clear xO;clear HB;have xO:=yB;have HB:=yC;have xK:=yD;have ER:=Bf;have yc:=EN;have xM:=EO;have xR:=EP;clear yB yC yD Bf EN EO EP;clear hb hbox hg;have ES:=xR.out;have ET:=xM.out;have yN : zK.cell? ⟨xL,0,none⟩ = some (.string (⟨#[]⟩ : ByteArray)):=(au xK.out 0).trans rfl;have yO : zK.cell? ⟨xL,1,none⟩ = some (.string (⟨#[]⟩ : ByteArray)):=(au xK.out 1).trans rfl;have yP : zK.cell? ⟨xL,2,none⟩ = some (.string (⟨#[]⟩ : ByteArray)):=(au xK.out 2).trans rfl;have yQ : zK.cell? ⟨xL,3,none⟩ = some (.int .u8 0):=(au xK.out 3).trans rfl;have yR : zK.cell? ⟨xL,4,none⟩ = some (.int .u16 0):=(au xK.out 4).trans rfl;have yS : zK.cell? ⟨xL,5,none⟩ = some (.slice none 0 0):=(au xK.out 5).trans rfl;have yT:=aH xK.out 0;have yU:=aH xK.out 1;have yV:=aH xK.out 2;have yX:=aH xK.out 3;have yY:=aH xK.out 4;have yZ:=aH xK.out 5)))
      (try simp only [Act.put,List.setIfInBounds_toArray,List.set_cons_zero,List.set_cons_succ])
      go_cut [38] (fun v38 wc=>∃ (kq : Nat) (Dj : Bool),v38 = .bool Dj ∧ Aside0 (aJ.j1 kq xJ Dj xS xI ((ah xI xJ).f0) ((ah xI xJ).f1) ((ah xI xJ).f2) ((ah xI xJ).f3) ((ah xI xJ).f4) ((ah xI xJ).f5) = some r) ∧ Aside0 (kq ≤ k1) ∧ Aside0 (wc.heap[xQ]? = some (.cells #[.int .u64 xS,(.slice (some yx) xI.length yh)] 53 (0,0))) ∧ Aside0 (wc.heap[xL]? = some (.cells #[.string ((ah xI xJ).f0),.string ((ah xI xJ).f1),.string ((ah xI xJ).f2),.int .u8 ((ah xI xJ).f3),.int .u16 ((ah xI xJ).f4),(.slice xY ((ah xI xJ).f5).length xX)] 103 (0,0))) ∧ Aside0 (Below w.heap.size w wc))
      case first =>
       have H:=Ig.out
       clear Ig
       replace H:=Option.bind_eq_some_iff.mp H
       obtain ⟨Ep,Fx,H⟩:=H
       replace H : (if Ep = true then ((aY.f k1 ((ah xI xJ).f1)).bind fun CO=>(if CO = true then ((bC.f k1 ((ah xI xJ).f2)).bind fun zV=>(aJ.j1 k1 xJ (!zV) xS xI ((ah xI xJ).f0) ((ah xI xJ).f1) ((ah xI xJ).f2) ((ah xI xJ).f3) ((ah xI xJ).f4) ((ah xI xJ).f5))) else (aJ.j1 k1 xJ true xS xI ((ah xI xJ).f0) ((ah xI xJ).f1) ((ah xI xJ).f2) ((ah xI xJ).f3) ((ah xI xJ).f4) ((ah xI xJ).f5)))) else (aJ.j1 k1 xJ true xS xI ((ah xI xJ).f0) ((ah xI xJ).f1) ((ah xI xJ).f2) ((ah xI xJ).f3) ((ah xI xJ).f4) ((ah xI xJ).f5))) = some r:=H
       have Er:=Aside0.mk Fx
       clear Fx
       by_cases c15 : Ep = true
       ·subst c15
        have H1 : ((aY.f k1 ((ah xI xJ).f1)).bind fun CO=>(if CO = true then ((bC.f k1 ((ah xI xJ).f2)).bind fun zV=>(aJ.j1 k1 xJ (!zV) xS xI ((ah xI xJ).f0) ((ah xI xJ).f1) ((ah xI xJ).f2) ((ah xI xJ).f3) ((ah xI xJ).f4) ((ah xI xJ).f5))) else (aJ.j1 k1 xJ true xS xI ((ah xI xJ).f0) ((ah xI xJ).f1) ((ah xI xJ).f2) ((ah xI xJ).f3) ((ah xI xJ).f4) ((ah xI xJ).f5)))) = some r:=by rw [if_pos rfl] at H;exact H
        clear H
        have H:=H1
        clear H1
        replace H:=Option.bind_eq_some_iff.mp H
        obtain ⟨CO,Fy,H⟩:=H
        replace H : (if CO = true then ((bC.f k1 ((ah xI xJ).f2)).bind fun zV=>(aJ.j1 k1 xJ (!zV) xS xI ((ah xI xJ).f0) ((ah xI xJ).f1) ((ah xI xJ).f2) ((ah xI xJ).f3) ((ah xI xJ).f4) ((ah xI xJ).f5))) else (aJ.j1 k1 xJ true xS xI ((ah xI xJ).f0) ((ah xI xJ).f1) ((ah xI xJ).f2) ((ah xI xJ).f3) ((ah xI xJ).f4) ((ah xI xJ).f5))) = some r:=H
        have Fg:=Aside0.mk Fy
        clear Fy
        by_cases c17 : CO = true
        ·subst c17
         have H1 : ((bC.f k1 ((ah xI xJ).f2)).bind fun zV=>(aJ.j1 k1 xJ (!zV) xS xI ((ah xI xJ).f0) ((ah xI xJ).f1) ((ah xI xJ).f2) ((ah xI xJ).f3) ((ah xI xJ).f4) ((ah xI xJ).f5))) = some r:=by rw [if_pos rfl] at H;exact H
         clear H
         have H:=H1
         clear H1
         replace H:=Option.bind_eq_some_iff.mp H
         obtain ⟨zV,Fz,H⟩:=H
         replace H : (aJ.j1 k1 xJ (!zV) xS xI ((ah xI xJ).f0) ((ah xI xJ).f1) ((ah xI xJ).f2) ((ah xI xJ).f3) ((ah xI xJ).f4) ((ah xI xJ).f5)) = some r:=H
         have Ih:=Aside0.mk Fz
         clear Fz
         have H':=Aside0.mk H
         clear H
         have Io:=xR.out
         have Ip:=xM.out
         have z8 : zK.cell? ⟨xL,0,none⟩ = some (.string (⟨#[]⟩ : ByteArray)):=(au xK.out 0).trans rfl
         have Aa : zK.cell? ⟨xL,1,none⟩ = some (.string (⟨#[]⟩ : ByteArray)):=(au xK.out 1).trans rfl
         have Ab : zK.cell? ⟨xL,2,none⟩ = some (.string (⟨#[]⟩ : ByteArray)):=(au xK.out 2).trans rfl
         have Ac : zK.cell? ⟨xL,3,none⟩ = some (.int .u8 0):=(au xK.out 3).trans rfl
         have Ad : zK.cell? ⟨xL,4,none⟩ = some (.int .u16 0):=(au xK.out 4).trans rfl
         have Ae : zK.cell? ⟨xL,5,none⟩ = some (.slice none 0 0):=(au xK.out 5).trans rfl
         have Af:=aH xK.out 0
         have Ag:=aH xK.out 1
         have Ah:=aH xK.out 2
         have Ai:=aH xK.out 3
         have Aj:=aH xK.out 4
         have Ak:=aH xK.out 5
         go_wp2_with (first|(go_at_call 19;(with_reducible refine (aR.calls k1 ((ah xI xJ).f0) true _ Er.out).mono ?_);rintro e w' ⟨rfl,⟨nd,rfl⟩⟩;(try first|exact ⟨rfl,_,World.drewN_drewN _ _ _⟩|exact ⟨rfl,_,Eq.trans (World.drewN_drewN _ _ _) (congrArg (World.drewN _) (Nat.add_assoc _ _ _))⟩))|(go_at_call 35;(with_reducible refine (aY.calls k1 ((ah xI xJ).f1) true _ Fg.out).mono ?_);rintro e BH ⟨rfl,hb⟩;have yB:=Aside0.mk (aK (g:=xQ) (o:=.cells #[.int .u64 xS,.slice (some yx) xI.length yh] 53 (0,0)) (by (with_reducible repeat (first|apply aC|apply aG|apply aA));refine aU ?_ xM.out _;(with_reducible repeat (first|apply aC|apply aG|apply aA));refine aU ?_ xM.out _;(with_reducible repeat (first|apply aC|apply aG|apply aA));refine aU ?_ xM.out _;(with_reducible repeat (first|apply aC|apply aG|apply aA));refine aU ?_ xM.out _;(with_reducible repeat (first|apply aC|apply aG|apply aA));refine aU ?_ xM.out _;(with_reducible repeat (first|apply aC|apply aG|apply aA));refine aU ?_ xM.out _;(with_reducible repeat (first|apply aC|apply aG|apply aA));exact xO.out) hb);have yC:=Aside0.mk (aK (g:=xL) (o:=.cells #[.string ((ah xI xJ).f0),.string ((ah xI xJ).f1),.string ((ah xI xJ).f2),.int .u8 ((ah xI xJ).f3),.int .u16 ((ah xI xJ).f4),.slice xY ((ah xI xJ).f5).length xX] 103 (0,0)) (by (with_reducible repeat (first|apply aC|apply aG|apply aA));refine bE (cs:=#[.string ((ah xI xJ).f0),.string ((ah xI xJ).f1),.string ((ah xI xJ).f2),.int .u8 ((ah xI xJ).f3),.int .u16 ((ah xI xJ).f4),.slice none 0 0]) ?_ 5 _ rfl;(with_reducible repeat (first|apply aC|apply aG|apply aA));refine bE (cs:=#[.string ((ah xI xJ).f0),.string ((ah xI xJ).f1),.string ((ah xI xJ).f2),.int .u8 ((ah xI xJ).f3),.int .u16 0,.slice none 0 0]) ?_ 4 _ rfl;(with_reducible repeat (first|apply aC|apply aG|apply aA));refine bE (cs:=#[.string ((ah xI xJ).f0),.string ((ah xI xJ).f1),.string ((ah xI xJ).f2),.int .u8 0,.int .u16 0,.slice none 0 0]) ?_ 3 _ rfl;(with_reducible repeat (first|apply aC|apply aG|apply aA));refine bE (cs:=#[.string ((ah xI xJ).f0),.string ((ah xI xJ).f1),.string (⟨#[]⟩ : ByteArray),.int .u8 0,.int .u16 0,.slice none 0 0]) ?_ 2 _ rfl;(with_reducible repeat (first|apply aC|apply aG|apply aA));refine bE (cs:=#[.string ((ah xI xJ).f0),.string (⟨#[]⟩ : ByteArray),.string (⟨#[]⟩ : ByteArray),.int .u8 0,.int .u16 0,.slice none 0 0]) ?_ 1 _ rfl;(with_reducible repeat (first|apply aC|apply aG|apply aA));refine bE (cs:=#[.string (⟨#[]⟩ : ByteArray),.string (⟨#[]⟩ : ByteArray),.string (⟨#[]⟩ : ByteArray),.int .u8 0,.int .u16 0,.slice none 0 0]) ?_ 0 _ rfl;(with_reducible repeat (first|apply aC|apply aG|apply aA));exact xK.out) hb);have yD:=Aside0.mk (aQ (by repeat (first|(with_reducible first|exact HB.out|apply ay|apply aj|apply av|refine ak ?_ xU.out|refine ak ?_ yc.out)|exact HB.out)) hb);clear xO;clear xK;clear HB;have xO:=yB;have xK:=yC;have HB:=yD;clear yB yC yD;(try clear hb);(try clear hb2);(try clear hk);(try clear hi);have za : BH.cell? ⟨xL,0,none⟩ = some (.string ((ah xI xJ).f0)):=(au xK.out 0).trans rfl;have ze : BH.cell? ⟨xL,1,none⟩ = some (.string ((ah xI xJ).f1)):=(au xK.out 1).trans rfl;have zf : BH.cell? ⟨xL,2,none⟩ = some (.string ((ah xI xJ).f2)):=(au xK.out 2).trans rfl;have zh : BH.cell? ⟨xL,3,none⟩ = some (.int .u8 ((ah xI xJ).f3)):=(au xK.out 3).trans rfl;have zi : BH.cell? ⟨xL,4,none⟩ = some (.int .u16 ((ah xI xJ).f4)):=(au xK.out 4).trans rfl;have zk : BH.cell? ⟨xL,5,none⟩ = some (.slice xY ((ah xI xJ).f5).length xX):=(au xK.out 5).trans rfl;have zl:=aH xK.out 0;have zm:=aH xK.out 1;have zn:=aH xK.out 2;have zo:=aH xK.out 3;have zq:=aH xK.out 4;have zu:=aH xK.out 5)|(go_at_call 54;(with_reducible refine (bC.calls k1 ((ah xI xJ).f2) zV _ Ih.out).mono ?_);rintro e w' ⟨rfl,⟨nd,rfl⟩⟩;(try first|exact ⟨rfl,_,World.drewN_drewN _ _ _⟩|exact ⟨rfl,_,Eq.trans (World.drewN_drewN _ _ _) (congrArg (World.drewN _) (Nat.add_assoc _ _ _))⟩)))
         repeat (go_quiet (first|(go_at_call 19;(with_reducible refine (aR.calls k1 ((ah xI xJ).f0) true _ Er.out).mono ?_);rintro e w' ⟨rfl,⟨nd,rfl⟩⟩;(try first|exact ⟨rfl,_,World.drewN_drewN _ _ _⟩|exact ⟨rfl,_,Eq.trans (World.drewN_drewN _ _ _) (congrArg (World.drewN _) (Nat.add_assoc _ _ _))⟩))|(go_at_call 35;(with_reducible refine (aY.calls k1 ((ah xI xJ).f1) true _ Fg.out).mono ?_);rintro e BH ⟨rfl,hb⟩;have yB:=Aside0.mk (aK (g:=xQ) (o:=.cells #[.int .u64 xS,.slice (some yx) xI.length yh] 53 (0,0)) (by (with_reducible repeat (first|apply aC|apply aG|apply aA));refine aU ?_ xM.out _;(with_reducible repeat (first|apply aC|apply aG|apply aA));refine aU ?_ xM.out _;(with_reducible repeat (first|apply aC|apply aG|apply aA));refine aU ?_ xM.out _;(with_reducible repeat (first|apply aC|apply aG|apply aA));refine aU ?_ xM.out _;(with_reducible repeat (first|apply aC|apply aG|apply aA));refine aU ?_ xM.out _;(with_reducible repeat (first|apply aC|apply aG|apply aA));refine aU ?_ xM.out _;(with_reducible repeat (first|apply aC|apply aG|apply aA));exact xO.out) hb);have yC:=Aside0.mk (aK (g:=xL) (o:=.cells #[.string ((ah xI xJ).f0),.string ((ah xI xJ).f1),.string ((ah xI xJ).f2),.int .u8 ((ah xI xJ).f3),.int .u16 ((ah xI xJ).f4),.slice xY ((ah xI xJ).f5).length xX] 103 (0,0)) (by (with_reducible repeat (first|apply aC|apply aG|apply aA));refine bE (cs:=#[.string ((ah xI xJ).f0),.string ((ah xI xJ).f1),.string ((ah xI xJ).f2),.int .u8 ((ah xI xJ).f3),.int .u16 ((ah xI xJ).f4),.slice none 0 0]) ?_ 5 _ rfl;(with_reducible repeat (first|apply aC|apply aG|apply aA));refine bE (cs:=#[.string ((ah xI xJ).f0),.string ((ah xI xJ).f1),.string ((ah xI xJ).f2),.int .u8 ((ah xI xJ).f3),.int .u16 0,.slice none 0 0]) ?_ 4 _ rfl;(with_reducible repeat (first|apply aC|apply aG|apply aA));refine bE (cs:=#[.string ((ah xI xJ).f0),.string ((ah xI xJ).f1),.string ((ah xI xJ).f2),.int .u8 0,.int .u16 0,.slice none 0 0]) ?_ 3 _ rfl;(with_reducible repeat (first|apply aC|apply aG|apply aA));refine bE (cs:=#[.string ((ah xI xJ).f0),.string ((ah xI xJ).f1),.string (⟨#[]⟩ : ByteArray),.int .u8 0,.int .u16 0,.slice none 0 0]) ?_ 2 _ rfl;(with_reducible repeat (first|apply aC|apply aG|apply aA));refine bE (cs:=#[.string ((ah xI xJ).f0),.string (⟨#[]⟩ : ByteArray),.string (⟨#[]⟩ : ByteArray),.int .u8 0,.int .u16 0,.slice none 0 0]) ?_ 1 _ rfl;(with_reducible repeat (first|apply aC|apply aG|apply aA));refine bE (cs:=#[.string (⟨#[]⟩ : ByteArray),.string (⟨#[]⟩ : ByteArray),.string (⟨#[]⟩ : ByteArray),.int .u8 0,.int .u16 0,.slice none 0 0]) ?_ 0 _ rfl;(with_reducible repeat (first|apply aC|apply aG|apply aA));exact xK.out) hb);have yD:=Aside0.mk (aQ (by repeat (first|(with_reducible first|exact HB.out|apply ay|apply aj|apply av|refine ak ?_ xU.out|refine ak ?_ yc.out)|exact HB.out)) hb);clear xO;clear xK;clear HB;have xO:=yB;have xK:=yC;have HB:=yD;clear yB yC yD;(try clear hb);(try clear hb2);(try clear hk);(try clear hi);have za : BH.cell? ⟨xL,0,none⟩ = some (.string ((ah xI xJ).f0)):=(au xK.out 0).trans rfl;have ze : BH.cell? ⟨xL,1,none⟩ = some (.string ((ah xI xJ).f1)):=(au xK.out 1).trans rfl;have zf : BH.cell? ⟨xL,2,none⟩ = some (.string ((ah xI xJ).f2)):=(au xK.out 2).trans rfl;have zh : BH.cell? ⟨xL,3,none⟩ = some (.int .u8 ((ah xI xJ).f3)):=(au xK.out 3).trans rfl;have zi : BH.cell? ⟨xL,4,none⟩ = some (.int .u16 ((ah xI xJ).f4)):=(au xK.out 4).trans rfl;have zk : BH.cell? ⟨xL,5,none⟩ = some (.slice xY ((ah xI xJ).f5).length xX):=(au xK.out 5).trans rfl;have zl:=aH xK.out 0;have zm:=aH xK.out 1;have zn:=aH xK.out 2;have zo:=aH xK.out 3;have zq:=aH xK.out 4;have zu:=aH xK.out 5)|(go_at_call 54;(with_reducible refine (bC.calls k1 ((ah xI xJ).f2) zV _ Ih.out).mono ?_);rintro e w' ⟨rfl,⟨nd,rfl⟩⟩;(try first|exact ⟨rfl,_,World.drewN_drewN _ _ _⟩|exact ⟨rfl,_,Eq.trans (World.drewN_drewN _ _ _) (congrArg (World.drewN _) (Nat.add_assoc _ _ _))⟩)));try go_wp2_with (first|(go_at_call 19;(with_reducible refine (aR.calls k1 ((ah xI xJ).f0) true _ Er.out).mono ?_);rintro e w' ⟨rfl,⟨nd,rfl⟩⟩;(try first|exact ⟨rfl,_,World.drewN_drewN _ _ _⟩|exact ⟨rfl,_,Eq.trans (World.drewN_drewN _ _ _) (congrArg (World.drewN _) (Nat.add_assoc _ _ _))⟩))|(go_at_call 35;(with_reducible refine (aY.calls k1 ((ah xI xJ).f1) true _ Fg.out).mono ?_);rintro e BH ⟨rfl,hb⟩;have yB:=Aside0.mk (aK (g:=xQ) (o:=.cells #[.int .u64 xS,.slice (some yx) xI.length yh] 53 (0,0)) (by (with_reducible repeat (first|apply aC|apply aG|apply aA));refine aU ?_ xM.out _;(with_reducible repeat (first|apply aC|apply aG|apply aA));refine aU ?_ xM.out _;(with_reducible repeat (first|apply aC|apply aG|apply aA));refine aU ?_ xM.out _;(with_reducible repeat (first|apply aC|apply aG|apply aA));refine aU ?_ xM.out _;(with_reducible repeat (first|apply aC|apply aG|apply aA));refine aU ?_ xM.out _;(with_reducible repeat (first|apply aC|apply aG|apply aA));refine aU ?_ xM.out _;(with_reducible repeat (first|apply aC|apply aG|apply aA));exact xO.out) hb);have yC:=Aside0.mk (aK (g:=xL) (o:=.cells #[.string ((ah xI xJ).f0),.string ((ah xI xJ).f1),.string ((ah xI xJ).f2),.int .u8 ((ah xI xJ).f3),.int .u16 ((ah xI xJ).f4),.slice xY ((ah xI xJ).f5).length xX] 103 (0,0)) (by (with_reducible repeat (first|apply aC|apply aG|apply aA));refine bE (cs:=#[.string ((ah xI xJ).f0),.string ((ah xI xJ).f1),.string ((ah xI xJ).f2),.int .u8 ((ah xI xJ).f3),.int .u16 ((ah xI xJ).f4),.slice none 0 0]) ?_ 5 _ rfl;(with_reducible repeat (first|apply aC|apply aG|apply aA));refine bE (cs:=#[.string ((ah xI xJ).f0),.string ((ah xI xJ).f1),.string ((ah xI xJ).f2),.int .u8 ((ah xI xJ).f3),.int .u16 0,.slice none 0 0]) ?_ 4 _ rfl;(with_reducible repeat (first|apply aC|apply aG|apply aA));refine bE (cs:=#[.string ((ah xI xJ).f0),.string ((ah xI xJ).f1),.string ((ah xI xJ).f2),.int .u8 0,.int .u16 0,.slice none 0 0]) ?_ 3 _ rfl;(with_reducible repeat (first|apply aC|apply aG|apply aA));refine bE (cs:=#[.string ((ah xI xJ).f0),.string ((ah xI xJ).f1),.string (⟨#[]⟩ : ByteArray),.int .u8 0,.int .u16 0,.slice none 0 0]) ?_ 2 _ rfl;(with_reducible repeat (first|apply aC|apply aG|apply aA));refine bE (cs:=#[.string ((ah xI xJ).f0),.string (⟨#[]⟩ : ByteArray),.string (⟨#[]⟩ : ByteArray),.int .u8 0,.int .u16 0,.slice none 0 0]) ?_ 1 _ rfl;(with_reducible repeat (first|apply aC|apply aG|apply aA));refine bE (cs:=#[.string (⟨#[]⟩ : ByteArray),.string (⟨#[]⟩ : ByteArray),.string (⟨#[]⟩ : ByteArray),.int .u8 0,.int .u16 0,.slice none 0 0]) ?_ 0 _ rfl;(with_reducible repeat (first|apply aC|apply aG|apply aA));exact xK.out) hb);have yD:=Aside0.mk (aQ (by repeat (first|(with_reducible first|exact HB.out|apply ay|apply aj|apply av|refine ak ?_ xU.out|refine ak ?_ yc.out)|exact HB.out)) hb);clear xO;clear xK;clear HB;have xO:=yB;have xK:=yC;have HB:=yD;clear yB yC yD;(try clear hb);(try clear hb2);(try clear hk);(try clear hi);have za : BH.cell? ⟨xL,0,none⟩ = some (.string ((ah xI xJ).f0)):=(au xK.out 0).trans rfl;have ze : BH.cell? ⟨xL,1,none⟩ = some (.string ((ah xI xJ).f1)):=(au xK.out 1).trans rfl;have zf : BH.cell? ⟨xL,2,none⟩ = some (.string ((ah xI xJ).f2)):=(au xK.out 2).trans rfl;have zh : BH.cell? ⟨xL,3,none⟩ = some (.int .u8 ((ah xI xJ).f3)):=(au xK.out 3).trans rfl;have zi : BH.cell? ⟨xL,4,none⟩ = some (.int .u16 ((ah xI xJ).f4)):=(au xK.out 4).trans rfl;have zk : BH.cell? ⟨xL,5,none⟩ = some (.slice xY ((ah xI xJ).f5).length xX):=(au xK.out 5).trans rfl;have zl:=aH xK.out 0;have zm:=aH xK.out 1;have zn:=aH xK.out 2;have zo:=aH xK.out 3;have zq:=aH xK.out 4;have zu:=aH xK.out 5)|(go_at_call 54;(with_reducible refine (bC.calls k1 ((ah xI xJ).f2) zV _ Ih.out).mono ?_);rintro e w' ⟨rfl,⟨nd,rfl⟩⟩;(try first|exact ⟨rfl,_,World.drewN_drewN _ _ _⟩|exact ⟨rfl,_,Eq.trans (World.drewN_drewN _ _ _) (congrArg (World.drewN _) (Nat.add_assoc _ _ _))⟩))))
         go_meet
         case rel=>exact ⟨_,(!zV),(by first|rfl|(simp;done)|(simp [*];done)),H',⟨by have:=Df.out;first|omega|exact Nat.le_refl _⟩,⟨by (with_reducible repeat (first|apply aC|apply aG|apply aA));exact xO.out⟩,⟨by (with_reducible repeat (first|apply aC|apply aG|apply aA));exact xK.out⟩,⟨by repeat (first|(with_reducible first|exact HB.out|apply ay|apply aj|apply av|refine ak ?_ xU.out|refine ak ?_ yc.out)|exact HB.out)⟩⟩
        ·replace c17:=Bool.eq_false_iff.mpr c17
         subst c17
         have H1 : (aJ.j1 k1 xJ true xS xI ((ah xI xJ).f0) ((ah xI xJ).f1) ((ah xI xJ).f2) ((ah xI xJ).f3) ((ah xI xJ).f4) ((ah xI xJ).f5)) = some r:=by rw [if_neg (show ¬ (false = true) by decide)] at H;exact H
         clear H
         have H:=H1
         clear H1
         have H':=Aside0.mk H
         clear H
         have Iq:=xR.out
         have Ir:=xM.out
         have Al : zK.cell? ⟨xL,0,none⟩ = some (.string (⟨#[]⟩ : ByteArray)):=(au xK.out 0).trans rfl
         have Am : zK.cell? ⟨xL,1,none⟩ = some (.string (⟨#[]⟩ : ByteArray)):=(au xK.out 1).trans rfl
         have Ao : zK.cell? ⟨xL,2,none⟩ = some (.string (⟨#[]⟩ : ByteArray)):=(au xK.out 2).trans rfl
         have Ap : zK.cell? ⟨xL,3,none⟩ = some (.int .u8 0):=(au xK.out 3).trans rfl
         have Aq : zK.cell? ⟨xL,4,none⟩ = some (.int .u16 0):=(au xK.out 4).trans rfl
         have Ar : zK.cell? ⟨xL,5,none⟩ = some (.slice none 0 0):=(au xK.out 5).trans rfl
         have Au:=aH xK.out 0
         have Av:=aH xK.out 1
         have Aw:=aH xK.out 2
         have Ay:=aH xK.out 3
         have Az:=aH xK.out 4
         have AA:=aH xK.out 5
         go_wp2_with (first|(go_at_call 19;(with_reducible refine (aR.calls k1 ((ah xI xJ).f0) true _ Er.out).mono ?_);rintro e w' ⟨rfl,⟨nd,rfl⟩⟩;(try first|exact ⟨rfl,_,World.drewN_drewN _ _ _⟩|exact ⟨rfl,_,Eq.trans (World.drewN_drewN _ _ _) (congrArg (World.drewN _) (Nat.add_assoc _ _ _))⟩))|(go_at_call 35;(with_reducible refine (aY.calls k1 ((ah xI xJ).f1) false _ Fg.out).mono ?_);rintro e Iu ⟨rfl,hb⟩;have yB:=Aside0.mk (aK (g:=xQ) (o:=.cells #[.int .u64 xS,.slice (some yx) xI.length yh] 53 (0,0)) (by (with_reducible repeat (first|apply aC|apply aG|apply aA));refine aU ?_ xM.out _;(with_reducible repeat (first|apply aC|apply aG|apply aA));refine aU ?_ xM.out _;(with_reducible repeat (first|apply aC|apply aG|apply aA));refine aU ?_ xM.out _;(with_reducible repeat (first|apply aC|apply aG|apply aA));refine aU ?_ xM.out _;(with_reducible repeat (first|apply aC|apply aG|apply aA));refine aU ?_ xM.out _;(with_reducible repeat (first|apply aC|apply aG|apply aA));refine aU ?_ xM.out _;(with_reducible repeat (first|apply aC|apply aG|apply aA));exact xO.out) hb);have yC:=Aside0.mk (aK (g:=xL) (o:=.cells #[.string ((ah xI xJ).f0),.string ((ah xI xJ).f1),.string ((ah xI xJ).f2),.int .u8 ((ah xI xJ).f3),.int .u16 ((ah xI xJ).f4),.slice xY ((ah xI xJ).f5).length xX] 103 (0,0)) (by (with_reducible repeat (first|apply aC|apply aG|apply aA));refine bE (cs:=#[.string ((ah xI xJ).f0),.string ((ah xI xJ).f1),.string ((ah xI xJ).f2),.int .u8 ((ah xI xJ).f3),.int .u16 ((ah xI xJ).f4),.slice none 0 0]) ?_ 5 _ rfl;(with_reducible repeat (first|apply aC|apply aG|apply aA));refine bE (cs:=#[.string ((ah xI xJ).f0),.string ((ah xI xJ).f1),.string ((ah xI xJ).f2),.int .u8 ((ah xI xJ).f3),.int .u16 0,.slice none 0 0]) ?_ 4 _ rfl;(with_reducible repeat (first|apply aC|apply aG|apply aA));refine bE (cs:=#[.string ((ah xI xJ).f0),.string ((ah xI xJ).f1),.string ((ah xI xJ).f2),.int .u8 0,.int .u16 0,.slice none 0 0]) ?_ 3 _ rfl;(with_reducible repeat (first|apply aC|apply aG|apply aA));refine bE (cs:=#[.string ((ah xI xJ).f0),.string ((ah xI xJ).f1),.string (⟨#[]⟩ : ByteArray),.int .u8 0,.int .u16 0,.slice none 0 0]) ?_ 2 _ rfl;(with_reducible repeat (first|apply aC|apply aG|apply aA));refine bE (cs:=#[.string ((ah xI xJ).f0),.string (⟨#[]⟩ : ByteArray),.string (⟨#[]⟩ : ByteArray),.int .u8 0,.int .u16 0,.slice none 0 0]) ?_ 1 _ rfl;(with_reducible repeat (first|apply aC|apply aG|apply aA));refine bE (cs:=#[.string (⟨#[]⟩ : ByteArray),.string (⟨#[]⟩ : ByteArray),.string (⟨#[]⟩ : ByteArray),.int .u8 0,.int .u16 0,.slice none 0 0]) ?_ 0 _ rfl;(with_reducible repeat (first|apply aC|apply aG|apply aA));exact xK.out) hb);have yD:=Aside0.mk (aQ (by repeat (first|(with_reducible first|exact HB.out|apply ay|apply aj|apply av|refine ak ?_ xU.out|refine ak ?_ yc.out)|exact HB.out)) hb);clear xO;clear xK;clear HB;have xO:=yB;have xK:=yC;have HB:=yD;clear yB yC yD;(try clear hb);(try clear hb2);(try clear hk);(try clear hi)))
         repeat (go_quiet (first|(go_at_call 19;(with_reducible refine (aR.calls k1 ((ah xI xJ).f0) true _ Er.out).mono ?_);rintro e w' ⟨rfl,⟨nd,rfl⟩⟩;(try first|exact ⟨rfl,_,World.drewN_drewN _ _ _⟩|exact ⟨rfl,_,Eq.trans (World.drewN_drewN _ _ _) (congrArg (World.drewN _) (Nat.add_assoc _ _ _))⟩))|(go_at_call 35;(with_reducible refine (aY.calls k1 ((ah xI xJ).f1) false _ Fg.out).mono ?_);rintro e Iu ⟨rfl,hb⟩;have yB:=Aside0.mk (aK (g:=xQ) (o:=.cells #[.int .u64 xS,.slice (some yx) xI.length yh] 53 (0,0)) (by (with_reducible repeat (first|apply aC|apply aG|apply aA));refine aU ?_ xM.out _;(with_reducible repeat (first|apply aC|apply aG|apply aA));refine aU ?_ xM.out _;(with_reducible repeat (first|apply aC|apply aG|apply aA));refine aU ?_ xM.out _;(with_reducible repeat (first|apply aC|apply aG|apply aA));refine aU ?_ xM.out _;(with_reducible repeat (first|apply aC|apply aG|apply aA));refine aU ?_ xM.out _;(with_reducible repeat (first|apply aC|apply aG|apply aA));refine aU ?_ xM.out _;(with_reducible repeat (first|apply aC|apply aG|apply aA));exact xO.out) hb);have yC:=Aside0.mk (aK (g:=xL) (o:=.cells #[.string ((ah xI xJ).f0),.string ((ah xI xJ).f1),.string ((ah xI xJ).f2),.int .u8 ((ah xI xJ).f3),.int .u16 ((ah xI xJ).f4),.slice xY ((ah xI xJ).f5).length xX] 103 (0,0)) (by (with_reducible repeat (first|apply aC|apply aG|apply aA));refine bE (cs:=#[.string ((ah xI xJ).f0),.string ((ah xI xJ).f1),.string ((ah xI xJ).f2),.int .u8 ((ah xI xJ).f3),.int .u16 ((ah xI xJ).f4),.slice none 0 0]) ?_ 5 _ rfl;(with_reducible repeat (first|apply aC|apply aG|apply aA));refine bE (cs:=#[.string ((ah xI xJ).f0),.string ((ah xI xJ).f1),.string ((ah xI xJ).f2),.int .u8 ((ah xI xJ).f3),.int .u16 0,.slice none 0 0]) ?_ 4 _ rfl;(with_reducible repeat (first|apply aC|apply aG|apply aA));refine bE (cs:=#[.string ((ah xI xJ).f0),.string ((ah xI xJ).f1),.string ((ah xI xJ).f2),.int .u8 0,.int .u16 0,.slice none 0 0]) ?_ 3 _ rfl;(with_reducible repeat (first|apply aC|apply aG|apply aA));refine bE (cs:=#[.string ((ah xI xJ).f0),.string ((ah xI xJ).f1),.string (⟨#[]⟩ : ByteArray),.int .u8 0,.int .u16 0,.slice none 0 0]) ?_ 2 _ rfl;(with_reducible repeat (first|apply aC|apply aG|apply aA));refine bE (cs:=#[.string ((ah xI xJ).f0),.string (⟨#[]⟩ : ByteArray),.string (⟨#[]⟩ : ByteArray),.int .u8 0,.int .u16 0,.slice none 0 0]) ?_ 1 _ rfl;(with_reducible repeat (first|apply aC|apply aG|apply aA));refine bE (cs:=#[.string (⟨#[]⟩ : ByteArray),.string (⟨#[]⟩ : ByteArray),.string (⟨#[]⟩ : ByteArray),.int .u8 0,.int .u16 0,.slice none 0 0]) ?_ 0 _ rfl;(with_reducible repeat (first|apply aC|apply aG|apply aA));exact xK.out) hb);have yD:=Aside0.mk (aQ (by repeat (first|(with_reducible first|exact HB.out|apply ay|apply aj|apply av|refine ak ?_ xU.out|refine ak ?_ yc.out)|exact HB.out)) hb);clear xO;clear xK;clear HB;have xO:=yB;have xK:=yC;have HB:=yD;clear yB yC yD;(try clear hb);(try clear hb2);(try clear hk);(try clear hi)));try go_wp2_with (first|(go_at_call 19;(with_reducible refine (aR.calls k1 ((ah xI xJ).f0) true _ Er.out).mono ?_);rintro e w' ⟨rfl,⟨nd,rfl⟩⟩;(try first|exact ⟨rfl,_,World.drewN_drewN _ _ _⟩|exact ⟨rfl,_,Eq.trans (World.drewN_drewN _ _ _) (congrArg (World.drewN _) (Nat.add_assoc _ _ _))⟩))|(go_at_call 35;(with_reducible refine (aY.calls k1 ((ah xI xJ).f1) false _ Fg.out).mono ?_);rintro e Iu ⟨rfl,hb⟩;have yB:=Aside0.mk (aK (g:=xQ) (o:=.cells #[.int .u64 xS,.slice (some yx) xI.length yh] 53 (0,0)) (by (with_reducible repeat (first|apply aC|apply aG|apply aA));refine aU ?_ xM.out _;(with_reducible repeat (first|apply aC|apply aG|apply aA));refine aU ?_ xM.out _;(with_reducible repeat (first|apply aC|apply aG|apply aA));refine aU ?_ xM.out _;(with_reducible repeat (first|apply aC|apply aG|apply aA));refine aU ?_ xM.out _;(with_reducible repeat (first|apply aC|apply aG|apply aA));refine aU ?_ xM.out _;(with_reducible repeat (first|apply aC|apply aG|apply aA));refine aU ?_ xM.out _;(with_reducible repeat (first|apply aC|apply aG|apply aA));exact xO.out) hb);have yC:=Aside0.mk (aK (g:=xL) (o:=.cells #[.string ((ah xI xJ).f0),.string ((ah xI xJ).f1),.string ((ah xI xJ).f2),.int .u8 ((ah xI xJ).f3),.int .u16 ((ah xI xJ).f4),.slice xY ((ah xI xJ).f5).length xX] 103 (0,0)) (by (with_reducible repeat (first|apply aC|apply aG|apply aA));refine bE (cs:=#[.string ((ah xI xJ).f0),.string ((ah xI xJ).f1),.string ((ah xI xJ).f2),.int .u8 ((ah xI xJ).f3),.int .u16 ((ah xI xJ).f4),.slice none 0 0]) ?_ 5 _ rfl;(with_reducible repeat (first|apply aC|apply aG|apply aA));refine bE (cs:=#[.string ((ah xI xJ).f0),.string ((ah xI xJ).f1),.string ((ah xI xJ).f2),.int .u8 ((ah xI xJ).f3),.int .u16 0,.slice none 0 0]) ?_ 4 _ rfl;(with_reducible repeat (first|apply aC|apply aG|apply aA));refine bE (cs:=#[.string ((ah xI xJ).f0),.string ((ah xI xJ).f1),.string ((ah xI xJ).f2),.int .u8 0,.int .u16 0,.slice none 0 0]) ?_ 3 _ rfl;(with_reducible repeat (first|apply aC|apply aG|apply aA));refine bE (cs:=#[.string ((ah xI xJ).f0),.string ((ah xI xJ).f1),.string (⟨#[]⟩ : ByteArray),.int .u8 0,.int .u16 0,.slice none 0 0]) ?_ 2 _ rfl;(with_reducible repeat (first|apply aC|apply aG|apply aA));refine bE (cs:=#[.string ((ah xI xJ).f0),.string (⟨#[]⟩ : ByteArray),.string (⟨#[]⟩ : ByteArray),.int .u8 0,.int .u16 0,.slice none 0 0]) ?_ 1 _ rfl;(with_reducible repeat (first|apply aC|apply aG|apply aA));refine bE (cs:=#[.string (⟨#[]⟩ : ByteArray),.string (⟨#[]⟩ : ByteArray),.string (⟨#[]⟩ : ByteArray),.int .u8 0,.int .u16 0,.slice none 0 0]) ?_ 0 _ rfl;(with_reducible repeat (first|apply aC|apply aG|apply aA));exact xK.out) hb);have yD:=Aside0.mk (aQ (by repeat (first|(with_reducible first|exact HB.out|apply ay|apply aj|apply av|refine ak ?_ xU.out|refine ak ?_ yc.out)|exact HB.out)) hb);clear xO;clear xK;clear HB;have xO:=yB;have xK:=yC;have HB:=yD;clear yB yC yD;(try clear hb);(try clear hb2);(try clear hk);(try clear hi))))
         go_meet
         case rel=>exact ⟨_,(true),(by first|rfl|(simp;done)|(simp [*];done)),H',⟨by have:=Df.out;first|omega|exact Nat.le_refl _⟩,⟨by (with_reducible repeat (first|apply aC|apply aG|apply aA));exact xO.out⟩,⟨by (with_reducible repeat (first|apply aC|apply aG|apply aA));exact xK.out⟩,⟨by repeat (first|(with_reducible first|exact HB.out|apply ay|apply aj|apply av|refine ak ?_ xU.out|refine ak ?_ yc.out)|exact HB.out)⟩⟩
       ·replace c15:=Bool.eq_false_iff.mpr c15
        subst c15
        have H1 : (aJ.j1 k1 xJ true xS xI ((ah xI xJ).f0) ((ah xI xJ).f1) ((ah xI xJ).f2) ((ah xI xJ).f3) ((ah xI xJ).f4) ((ah xI xJ).f5)) = some r:=by rw [if_neg (show ¬ (false = true) by decide)] at H;exact H
        clear H
        have H:=H1
        clear H1
        have H':=Aside0.mk H
        clear H
        have Iw:=xR.out
        have Iy:=xM.out
        have AB : zK.cell? ⟨xL,0,none⟩ = some (.string (⟨#[]⟩ : ByteArray)):=(au xK.out 0).trans rfl
        have AJ : zK.cell? ⟨xL,1,none⟩ = some (.string (⟨#[]⟩ : ByteArray)):=(au xK.out 1).trans rfl
        have AL : zK.cell? ⟨xL,2,none⟩ = some (.string (⟨#[]⟩ : ByteArray)):=(au xK.out 2).trans rfl
        have AO : zK.cell? ⟨xL,3,none⟩ = some (.int .u8 0):=(au xK.out 3).trans rfl
        have AP : zK.cell? ⟨xL,4,none⟩ = some (.int .u16 0):=(au xK.out 4).trans rfl
        have AQ : zK.cell? ⟨xL,5,none⟩ = some (.slice none 0 0):=(au xK.out 5).trans rfl
        have AU:=aH xK.out 0
        have AV:=aH xK.out 1
        have AX:=aH xK.out 2
        have AY:=aH xK.out 3
        have AZ:=aH xK.out 4
        have A9:=aH xK.out 5
        go_wp2_with (first|(go_at_call 19;(with_reducible refine (aR.calls k1 ((ah xI xJ).f0) false _ Er.out).mono ?_);rintro e w' ⟨rfl,⟨nd,rfl⟩⟩;(try first|exact ⟨rfl,_,World.drewN_drewN _ _ _⟩|exact ⟨rfl,_,Eq.trans (World.drewN_drewN _ _ _) (congrArg (World.drewN _) (Nat.add_assoc _ _ _))⟩)))
        repeat (go_quiet (first|(go_at_call 19;(with_reducible refine (aR.calls k1 ((ah xI xJ).f0) false _ Er.out).mono ?_);rintro e w' ⟨rfl,⟨nd,rfl⟩⟩;(try first|exact ⟨rfl,_,World.drewN_drewN _ _ _⟩|exact ⟨rfl,_,Eq.trans (World.drewN_drewN _ _ _) (congrArg (World.drewN _) (Nat.add_assoc _ _ _))⟩)));try go_wp2_with (first|(go_at_call 19;(with_reducible refine (aR.calls k1 ((ah xI xJ).f0) false _ Er.out).mono ?_);rintro e w' ⟨rfl,⟨nd,rfl⟩⟩;(try first|exact ⟨rfl,_,World.drewN_drewN _ _ _⟩|exact ⟨rfl,_,Eq.trans (World.drewN_drewN _ _ _) (congrArg (World.drewN _) (Nat.add_assoc _ _ _))⟩))))
        go_meet
        case rel=>exact ⟨_,(true),(by first|rfl|(simp;done)|(simp [*];done)),H',⟨by have:=Df.out;first|omega|exact Nat.le_refl _⟩,⟨by (with_reducible repeat (first|apply aC|apply aG|apply aA));refine aU ?_ xM.out _;(with_reducible repeat (first|apply aC|apply aG|apply aA));refine aU ?_ xM.out _;(with_reducible repeat (first|apply aC|apply aG|apply aA));refine aU ?_ xM.out _;(with_reducible repeat (first|apply aC|apply aG|apply aA));refine aU ?_ xM.out _;(with_reducible repeat (first|apply aC|apply aG|apply aA));refine aU ?_ xM.out _;(with_reducible repeat (first|apply aC|apply aG|apply aA));refine aU ?_ xM.out _;(with_reducible repeat (first|apply aC|apply aG|apply aA));exact xO.out⟩,⟨by (with_reducible repeat (first|apply aC|apply aG|apply aA));refine bE (cs:=#[.string ((ah xI xJ).f0),.string ((ah xI xJ).f1),.string ((ah xI xJ).f2),.int .u8 ((ah xI xJ).f3),.int .u16 ((ah xI xJ).f4),.slice none 0 0]) ?_ 5 _ rfl;(with_reducible repeat (first|apply aC|apply aG|apply aA));refine bE (cs:=#[.string ((ah xI xJ).f0),.string ((ah xI xJ).f1),.string ((ah xI xJ).f2),.int .u8 ((ah xI xJ).f3),.int .u16 0,.slice none 0 0]) ?_ 4 _ rfl;(with_reducible repeat (first|apply aC|apply aG|apply aA));refine bE (cs:=#[.string ((ah xI xJ).f0),.string ((ah xI xJ).f1),.string ((ah xI xJ).f2),.int .u8 0,.int .u16 0,.slice none 0 0]) ?_ 3 _ rfl;(with_reducible repeat (first|apply aC|apply aG|apply aA));refine bE (cs:=#[.string ((ah xI xJ).f0),.string ((ah xI xJ).f1),.string (⟨#[]⟩ : ByteArray),.int .u8 0,.int .u16 0,.slice none 0 0]) ?_ 2 _ rfl;(with_reducible repeat (first|apply aC|apply aG|apply aA));refine bE (cs:=#[.string ((ah xI xJ).f0),.string (⟨#[]⟩ : ByteArray),.string (⟨#[]⟩ : ByteArray),.int .u8 0,.int .u16 0,.slice none 0 0]) ?_ 1 _ rfl;(with_reducible repeat (first|apply aC|apply aG|apply aA));refine bE (cs:=#[.string (⟨#[]⟩ : ByteArray),.string (⟨#[]⟩ : ByteArray),.string (⟨#[]⟩ : ByteArray),.int .u8 0,.int .u16 0,.slice none 0 0]) ?_ 0 _ rfl;(with_reducible repeat (first|apply aC|apply aG|apply aA));exact xK.out⟩,⟨by repeat (first|(with_reducible first|exact HB.out|apply ay|apply aj|apply av|refine ak ?_ xU.out|refine ak ?_ yc.out)|exact HB.out)⟩⟩
      case rest =>
       clear Ig
       try clear c1
       try clear p1
       try clear q1
       try clear hx1
       try clear c2
       try clear c2b0
       try clear c2b1
       try clear p2
       try clear c7
       try clear c7b0
       try clear c8
       try clear c8b0
       try clear c12
       try clear c15
       try clear c17
       try clear c18
       try clear EU
       try clear EW
       try clear Es
       try clear c19
       try clear c23
       try clear FI
       try clear FJ
       try clear zW
       try clear zX
       try clear yN
       try clear yO
       try clear yP
       try clear yQ
       try clear yR
       try clear yS
       try clear z8
       try clear Aa
       try clear Ab
       try clear Ac
       try clear Ad
       try clear Ae
       try clear za
       try clear ze
       try clear zf
       try clear zh
       try clear zi
       try clear zk
       try clear Al
       try clear Am
       try clear Ao
       try clear Ap
       try clear Aq
       try clear Ar
       try clear AB
       try clear AJ
       try clear AL
       try clear AO
       try clear AP
       try clear AQ
       try clear zN
       try clear zO
       try clear zR
       try clear zS
       try clear zY
       try clear zZ
       try clear yT
       try clear yU
       try clear yV
       try clear yX
       try clear yY
       try clear yZ
       try clear Af
       try clear Ag
       try clear Ah
       try clear Ai
       try clear Aj
       try clear Ak
       try clear zl
       try clear zm
       try clear zn
       try clear zo
       try clear zq
       try clear zu
       try clear Au
       try clear Av
       try clear Aw
       try clear Ay
       try clear Az
       try clear AA
       try clear AU
       try clear AV
       try clear AX
       try clear AY
       try clear AZ
       try clear A9
       try clear zP
       try clear zQ
       try clear zT
       try clear zU
       try clear yE
       try clear yF
       try clear yG
       try clear yH
       try clear yI
       try clear yJ
       try clear CQ
       try clear p2
       try clear CS
       obtain ⟨kq,Dj,rfl,HA,Eh,xO,xK,HB⟩:=hcut
       cases kq with
       | zero=>exact absurd HA.out (by simp [aJ.j1])
       | succ FL =>
        have H:=HA.out
        clear HA
        simp only [aJ.j1] at H
        by_cases c28 : Dj = true
        ·subst c28
         have H1 : (some 13) = some r:=by rw [if_pos rfl] at H;exact H
         clear H
         have H:=H1
         clear H1
         obtain rfl:=Option.some.inj H
         go_wp2
         repeat (go_quiet (fail);try go_wp2)
         go_ret
         exact ⟨by first|rfl|(simp [aZ,bf] <;> rfl)|(simp [*,aZ,bf] <;> rfl),by repeat (first|(with_reducible first|exact HB.out|apply ay|apply aj|apply av|refine ak ?_ xU.out|refine ak ?_ yc.out)|exact HB.out)⟩
        ·replace c28:=Bool.eq_false_iff.mpr c28
         subst c28
         have H1 : (if xJ > 0 then (if 0 ≤ (wrap64 (xJ - 1)) then (if (wrap64 (xJ - 1)) < (xI.length : Int) then (aJ.j2 FL xJ (!(Op.bytesLess (((ah xI (wrap64 (xJ - 1))).f0).toList) ((ah xI xJ).f0).toList)) xS xI ((ah xI xJ).f0) ((ah xI xJ).f1) ((ah xI xJ).f2) ((ah xI xJ).f3) ((ah xI xJ).f4) ((ah xI xJ).f5)) else (none)) else (none)) else (aJ.j2 FL xJ false xS xI ((ah xI xJ).f0) ((ah xI xJ).f1) ((ah xI xJ).f2) ((ah xI xJ).f3) ((ah xI xJ).f4) ((ah xI xJ).f5))) = some r:=by rw [if_neg (show ¬ (false = true) by decide)] at H;exact H
         clear H
         have H:=H1
         clear H1
         have EY:=Aside0.mk H
         clear H
         go_upto_region 9 with (fail)
         repeat (go_quiet (fail);go_upto_region 9 with (fail))
         go_cut [52] (fun v52 wc=>∃ (kq : Nat) (BI : Bool),v52 = .bool BI ∧ Aside0 (aJ.j2 kq xJ BI xS xI ((ah xI xJ).f0) ((ah xI xJ).f1) ((ah xI xJ).f2) ((ah xI xJ).f3) ((ah xI xJ).f4) ((ah xI xJ).f5) = some r) ∧ Aside0 (kq ≤ FL) ∧ Aside0 (wc.heap[xQ]? = some (.cells #[.int .u64 xS,(.slice (some yx) xI.length yh)] 53 (0,0))) ∧ Aside0 (wc.heap[xL]? = some (.cells #[.string ((ah xI xJ).f0),.string ((ah xI xJ).f1),.string ((ah xI xJ).f2),.int .u8 ((ah xI xJ).f3),.int .u16 ((ah xI xJ).f4),(.slice xY ((ah xI xJ).f5).length xX)] 103 (0,0))) ∧ Aside0 (Below w.heap.size w wc))
         case first =>
          have H:=EY.out
          clear EY
          by_cases Em : xJ > 0
          ·rw [if_pos Em] at H
           have c30b0 : decide (0 < xJ) = true:=decide_eq_true Em
           clear Em
           (first|rw [c30b0]|(simp only [bD,bG];rw [c30b0])|skip)
           obtain ⟨Bg,Dk⟩ : ∃ j_ : Int,(wrap64 (xJ - 1)) = j_:=⟨_,rfl⟩
           replace H : (if 0 ≤ (Bg) then (if (Bg) < (xI.length : Int) then (aJ.j2 FL xJ (!(Op.bytesLess (((ah xI (Bg)).f0).toList) ((ah xI xJ).f0).toList)) xS xI ((ah xI xJ).f0) ((ah xI xJ).f1) ((ah xI xJ).f2) ((ah xI xJ).f3) ((ah xI xJ).f4) ((ah xI xJ).f5)) else (none)) else (none)) = some r:=by first|(rw [Dk] at H;exact H)|(simp only [Dk] at H ⊢;exact H)
           have hji31w : (IntKind.i64.wrap (xJ - 1)) = Bg:=(bD _).trans Dk
           by_cases c32 : 0 ≤ (Bg)
           ·rw [if_pos c32] at H
            have c32b0 : decide (0 ≤ (Bg)) = true:=decide_eq_true c32
            clear c32
            by_cases EX : (Bg) < (xI.length : Int)
            ·rw [if_pos EX] at H
             have c33b0 : decide ((Bg) < (xI.length : Int)) = true:=decide_eq_true EX
             clear EX
             have H':=Aside0.mk H
             clear H
             have Iz:=xR.out
             have IB:=xM.out
             have Bh : wc.cell? ⟨xL,0,none⟩ = some (.string ((ah xI xJ).f0)):=(au xK.out 0).trans rfl
             have Bj : wc.cell? ⟨xL,1,none⟩ = some (.string ((ah xI xJ).f1)):=(au xK.out 1).trans rfl
             have Bl : wc.cell? ⟨xL,2,none⟩ = some (.string ((ah xI xJ).f2)):=(au xK.out 2).trans rfl
             have Bn : wc.cell? ⟨xL,3,none⟩ = some (.int .u8 ((ah xI xJ).f3)):=(au xK.out 3).trans rfl
             have Bo : wc.cell? ⟨xL,4,none⟩ = some (.int .u16 ((ah xI xJ).f4)):=(au xK.out 4).trans rfl
             have Bp : wc.cell? ⟨xL,5,none⟩ = some (.slice xY ((ah xI xJ).f5).length xX):=(au xK.out 5).trans rfl
             have Bq:=aH xK.out 0
             have Br:=aH xK.out 1
             have Bt:=aH xK.out 2
             have Bu:=aH xK.out 3
             have Bv:=aH xK.out 4
             have Bw:=aH xK.out 5
             have Bz : wc.cell? ⟨xQ,0,none⟩ = some (.int .u64 xS):=(au xO.out 0).trans rfl
             have BA : wc.cell? ⟨xQ,1,none⟩ = some (.slice (some yx) xI.length yh):=(au xO.out 1).trans rfl
             have BF:=aH xO.out 0
             have BG:=aH xO.out 1
             have CX : 0 ≤ ((Bg) : Int):=of_decide_eq_true (by first|(with_reducible assumption)|assumption)
             have CY : (Bg) < (xI.length : Int):=of_decide_eq_true (by first|(with_reducible assumption)|assumption)
             obtain ⟨FB,Ii,Ij,Ik,zw,zx,zy,zA,zB,zC,Dl,Dm⟩:=jM EM.out (Bg) CX CY
             obtain rfl : yx = FB:=(by injection Ik)
             replace zw:=(HB.out.cell (World.block_lt_of_cell? w _ zw)).trans zw
             replace zx:=(HB.out.cell (World.block_lt_of_cell? w _ zx)).trans zx
             replace zy:=(HB.out.cell (World.block_lt_of_cell? w _ zy)).trans zy
             replace zA:=(HB.out.cell (World.block_lt_of_cell? w _ zA)).trans zA
             replace zB:=(HB.out.cell (World.block_lt_of_cell? w _ zB)).trans zB
             replace zC:=(HB.out.cell (World.block_lt_of_cell? w _ zC)).trans zC
             have FM:=Aside0.mk Dm
             have FN:=Aside0.mk Dl
             clear Dm Dl
             replace CX:=eq_true CX
             replace CY:=eq_true CY
             go_wp2
             repeat (go_quiet (fail);try go_wp2)
             go_meet
             case rel=>exact ⟨_,(!(Op.bytesLess (((ah xI (Bg)).f0).toList) ((ah xI xJ).f0).toList)),(by first|rfl|(simp;done)|(simp only [← Dk] <;> (first|rfl|simp))|(simp [*];done)),H',⟨by have:=Df.out;have:=Eh.out;first|omega|exact Nat.le_refl _⟩,⟨by (with_reducible repeat (first|apply aC|apply aG|apply aA));exact xO.out⟩,⟨by (with_reducible repeat (first|apply aC|apply aG|apply aA));exact xK.out⟩,⟨by repeat (first|(with_reducible first|exact HB.out|apply ay|apply aj|apply av|refine ak ?_ xU.out|refine ak ?_ yc.out)|exact HB.out)⟩⟩
            ·rw [if_neg EX] at H
             exact absurd H (by simp)
           ·rw [if_neg c32] at H
            exact absurd H (by simp)
          ·rw [if_neg Em] at H
           have c30b0 : decide (0 < xJ) = false:=decide_eq_false Em
           clear Em
           (first|rw [c30b0]|(simp only [bD,bG];rw [c30b0])|skip)
           have H':=Aside0.mk H
           clear H
           go_wp2
           repeat (go_quiet (fail);try go_wp2)
           go_meet
           case rel=>exact ⟨_,(false),(by first|rfl|(simp;done)|(simp [*];done)),H',⟨by have:=Df.out;have:=Eh.out;first|omega|exact Nat.le_refl _⟩,⟨by (with_reducible repeat (first|apply aC|apply aG|apply aA));exact xO.out⟩,⟨by (with_reducible repeat (first|apply aC|apply aG|apply aA));exact xK.out⟩,⟨by repeat (first|(with_reducible first|exact HB.out|apply ay|apply aj|apply av|refine ak ?_ xU.out|refine ak ?_ yc.out)|exact HB.out)⟩⟩
         case rest =>
          clear EY
          try clear c1
          try clear p1
          try clear q1
          try clear hx1
          try clear c2
          try clear c2b0
          try clear c2b1
          try clear p2
          try clear c3
          try clear p6
          try clear c7
          try clear c7b0
          try clear c8
          try clear c8b0
          try clear c12
          try clear c15
          try clear c17
          try clear c18
          try clear EU
          try clear EW
          try clear Es
          try clear c19
          try clear Fh
          try clear Fj
          try clear EZ
          try clear c23
          try clear FI
          try clear FJ
          try clear c28
          try clear Em
          try clear c30b0
          try clear c32
          try clear c32b0
          try clear EX
          try clear c33b0
          try clear c34
          try clear zW
          try clear zX
          try clear yN
          try clear yO
          try clear yP
          try clear yQ
          try clear yR
          try clear yS
          try clear z8
          try clear Aa
          try clear Ab
          try clear Ac
          try clear Ad
          try clear Ae
          try clear za
          try clear ze
          try clear zf
          try clear zh
          try clear zi
          try clear zk
          try clear Al
          try clear Am
          try clear Ao
          try clear Ap
          try clear Aq
          try clear Ar
          try clear AB
          try clear AJ
          try clear AL
          try clear AO
          try clear AP
          try clear AQ
          try clear Bh
          try clear Bj
          try clear Bl
          try clear Bn
          try clear Bo
          try clear Bp
          try clear Bz
          try clear BA
          try clear zN
          try clear zO
          try clear zR
          try clear zS
          try clear zY
          try clear zZ
          try clear yT
          try clear yU
          try clear yV
          try clear yX
          try clear yY
          try clear yZ
          try clear Af
          try clear Ag
          try clear Ah
          try clear Ai
          try clear Aj
          try clear Ak
          try clear zl
          try clear zm
          try clear zn
          try clear zo
          try clear zq
          try clear zu
          try clear Au
          try clear Av
          try clear Aw
          try clear Ay
          try clear Az
          try clear AA
          try clear AU
          try clear AV
          try clear AX
          try clear AY
          try clear AZ
          try clear A9
          try clear Bq
          try clear Br
          try clear Bt
          try clear Bu
          try clear Bv
          try clear Bw
          try clear BF
          try clear BG
          try clear zP
          try clear zQ
          try clear zT
          try clear zU
          try clear yE
          try clear yF
          try clear yG
          try clear yH
          try clear yI
          try clear yJ
          try clear zw
          try clear zx
          try clear zy
          try clear zA
          try clear zB
          try clear zC
          try clear p1
          try clear EU
          try clear CQ
          try clear CX
          try clear p2
          try clear q1
          try clear EW
          try clear CS
          try clear CY
          obtain ⟨kq,BI,rfl,HA,BJ,xO,xK,HB⟩:=hcut
          cases kq with
          | zero=>exact absurd HA.out (by simp [aJ.j2])
          | succ Et =>
           have H:=HA.out
           clear HA
           simp only [aJ.j2] at H
           by_cases c37 : BI = true
           ·subst c37
            have H1 : (some 6) = some r:=by rw [if_pos rfl] at H;exact H
            clear H
            have H:=H1
            clear H1
            obtain rfl:=Option.some.inj H
            go_wp2
            repeat (go_quiet (fail);try go_wp2)
            go_ret
            exact ⟨by first|rfl|(simp [aZ,bf] <;> rfl)|(simp [*,aZ,bf] <;> rfl),by repeat (first|(with_reducible first|exact HB.out|apply ay|apply aj|apply av|refine ak ?_ xU.out|refine ak ?_ yc.out)|exact HB.out)⟩
           ·replace c37:=Bool.eq_false_iff.mpr c37
            subst c37
            have H1 : (if ((ah xI xJ).f3) > 2 then (aJ.j3 Et xJ true xS xI ((ah xI xJ).f0) ((ah xI xJ).f1) ((ah xI xJ).f2) ((ah xI xJ).f3) ((ah xI xJ).f4) ((ah xI xJ).f5)) else (if ((ah xI xJ).f4) = 0 then (aJ.j3 Et xJ true xS xI ((ah xI xJ).f0) ((ah xI xJ).f1) ((ah xI xJ).f2) ((ah xI xJ).f3) ((ah xI xJ).f4) ((ah xI xJ).f5)) else (aJ.j3 Et xJ (decide (((ah xI xJ).f4) > 3600)) xS xI ((ah xI xJ).f0) ((ah xI xJ).f1) ((ah xI xJ).f2) ((ah xI xJ).f3) ((ah xI xJ).f4) ((ah xI xJ).f5)))) = some r:=by rw [if_neg (show ¬ (false = true) by decide)] at H;exact H
            clear H
            have H:=H1
            clear H1
            have E5:=Aside0.mk H
            clear H
            go_upto_region 11 with (fail)
            repeat (go_quiet (fail);go_upto_region 11 with (fail))
            go_cut [65] (fun v65 wc=>∃ (kq : Nat) (BK : Bool),v65 = .bool BK ∧ Aside0 (aJ.j3 kq xJ BK xS xI ((ah xI xJ).f0) ((ah xI xJ).f1) ((ah xI xJ).f2) ((ah xI xJ).f3) ((ah xI xJ).f4) ((ah xI xJ).f5) = some r) ∧ Aside0 (kq ≤ Et) ∧ Aside0 (wc.heap[xQ]? = some (.cells #[.int .u64 xS,(.slice (some yx) xI.length yh)] 53 (0,0))) ∧ Aside0 (wc.heap[xL]? = some (.cells #[.string ((ah xI xJ).f0),.string ((ah xI xJ).f1),.string ((ah xI xJ).f2),.int .u8 ((ah xI xJ).f3),.int .u16 ((ah xI xJ).f4),(.slice xY ((ah xI xJ).f5).length xX)] 103 (0,0))) ∧ Aside0 (Below w.heap.size w wc))
            case first =>
             have H:=E5.out
             clear E5
             by_cases Eu : ((ah xI xJ).f3) > 2
             ·rw [if_pos Eu] at H
              have c39b0 : decide (2 < ((ah xI xJ).f3)) = true:=decide_eq_true Eu
              clear Eu
              (first|rw [c39b0]|(simp only [bD,bG];rw [c39b0])|skip)
              have H':=Aside0.mk H
              clear H
              have IC:=xR.out
              have IE:=xM.out
              have BL : wc.cell? ⟨xL,0,none⟩ = some (.string ((ah xI xJ).f0)):=(au xK.out 0).trans rfl
              have BM : wc.cell? ⟨xL,1,none⟩ = some (.string ((ah xI xJ).f1)):=(au xK.out 1).trans rfl
              have BN : wc.cell? ⟨xL,2,none⟩ = some (.string ((ah xI xJ).f2)):=(au xK.out 2).trans rfl
              have BO : wc.cell? ⟨xL,3,none⟩ = some (.int .u8 ((ah xI xJ).f3)):=(au xK.out 3).trans rfl
              have BP : wc.cell? ⟨xL,4,none⟩ = some (.int .u16 ((ah xI xJ).f4)):=(au xK.out 4).trans rfl
              have BQ : wc.cell? ⟨xL,5,none⟩ = some (.slice xY ((ah xI xJ).f5).length xX):=(au xK.out 5).trans rfl
              have BR:=aH xK.out 0
              have BS:=aH xK.out 1
              have BU:=aH xK.out 2
              have BZ:=aH xK.out 3
              have Ca:=aH xK.out 4
              have Cb:=aH xK.out 5
              go_wp2
              repeat (go_quiet (fail);try go_wp2)
              go_meet
              case rel=>exact ⟨_,(true),(by first|rfl|(simp;done)|(simp [*];done)),H',⟨by have:=Df.out;have:=Eh.out;have:=BJ.out;first|omega|exact Nat.le_refl _⟩,⟨by (with_reducible repeat (first|apply aC|apply aG|apply aA));exact xO.out⟩,⟨by (with_reducible repeat (first|apply aC|apply aG|apply aA));exact xK.out⟩,⟨by repeat (first|(with_reducible first|exact HB.out|apply ay|apply aj|apply av|refine ak ?_ xU.out|refine ak ?_ yc.out)|exact HB.out)⟩⟩
             ·rw [if_neg Eu] at H
              have c39b0 : decide (2 < ((ah xI xJ).f3)) = false:=decide_eq_false Eu
              clear Eu
              (first|rw [c39b0]|(simp only [bD,bG];rw [c39b0])|skip)
              by_cases En : ((ah xI xJ).f4) = 0
              ·rw [if_pos En] at H
               have c42b0 : (((ah xI xJ).f4) == 0) = true:=beq_iff_eq.mpr En
               have c42b1 : (((ah xI xJ).f4) != 0) = false:=bne_eq_false_iff_eq.mpr En
               clear En
               have H':=Aside0.mk H
               clear H
               have IG:=xR.out
               have II:=xM.out
               have Cc : wc.cell? ⟨xL,0,none⟩ = some (.string ((ah xI xJ).f0)):=(au xK.out 0).trans rfl
               have Ce : wc.cell? ⟨xL,1,none⟩ = some (.string ((ah xI xJ).f1)):=(au xK.out 1).trans rfl
               have Cg : wc.cell? ⟨xL,2,none⟩ = some (.string ((ah xI xJ).f2)):=(au xK.out 2).trans rfl
               have Ch : wc.cell? ⟨xL,3,none⟩ = some (.int .u8 ((ah xI xJ).f3)):=(au xK.out 3).trans rfl
               have Ci : wc.cell? ⟨xL,4,none⟩ = some (.int .u16 ((ah xI xJ).f4)):=(au xK.out 4).trans rfl
               have Cj : wc.cell? ⟨xL,5,none⟩ = some (.slice xY ((ah xI xJ).f5).length xX):=(au xK.out 5).trans rfl
               have Ck:=aH xK.out 0
               have Cm:=aH xK.out 1
               have Cn:=aH xK.out 2
               have Co:=aH xK.out 3
               have Cq:=aH xK.out 4
               have Cr:=aH xK.out 5
               go_wp2
               repeat (go_quiet (fail);try go_wp2)
               go_meet
               case rel=>exact ⟨_,(true),(by first|rfl|(simp;done)|(simp [*];done)),H',⟨by have:=Df.out;have:=Eh.out;have:=BJ.out;first|omega|exact Nat.le_refl _⟩,⟨by (with_reducible repeat (first|apply aC|apply aG|apply aA));exact xO.out⟩,⟨by (with_reducible repeat (first|apply aC|apply aG|apply aA));exact xK.out⟩,⟨by repeat (first|(with_reducible first|exact HB.out|apply ay|apply aj|apply av|refine ak ?_ xU.out|refine ak ?_ yc.out)|exact HB.out)⟩⟩
              ·rw [if_neg En] at H
               have c42b0 : (((ah xI xJ).f4) == 0) = false:=beq_eq_false_iff_ne.mpr En
               have c42b1 : (((ah xI xJ).f4) != 0) = true:=bne_iff_ne.mpr En
               have H':=Aside0.mk H
               clear H
               have IJ:=xR.out
               have IK:=xM.out
               have Ct : wc.cell? ⟨xL,0,none⟩ = some (.string ((ah xI xJ).f0)):=(au xK.out 0).trans rfl
               have Cu : wc.cell? ⟨xL,1,none⟩ = some (.string ((ah xI xJ).f1)):=(au xK.out 1).trans rfl
               have Cv : wc.cell? ⟨xL,2,none⟩ = some (.string ((ah xI xJ).f2)):=(au xK.out 2).trans rfl
               have Cw : wc.cell? ⟨xL,3,none⟩ = some (.int .u8 ((ah xI xJ).f3)):=(au xK.out 3).trans rfl
               have Cx : wc.cell? ⟨xL,4,none⟩ = some (.int .u16 ((ah xI xJ).f4)):=(au xK.out 4).trans rfl
               have Cy : wc.cell? ⟨xL,5,none⟩ = some (.slice xY ((ah xI xJ).f5).length xX):=(au xK.out 5).trans rfl
               have Cz:=aH xK.out 0
               have CB:=aH xK.out 1
               have CF:=aH xK.out 2
               have CG:=aH xK.out 3
               have CJ:=aH xK.out 4
               have CK:=aH xK.out 5
               go_wp2
               repeat (go_quiet (fail);try go_wp2)
               go_meet
               case rel=>exact ⟨_,(decide (((ah xI xJ).f4) > 3600)),(by first|rfl|(simp;done)|(simp [*];done)),H',⟨by have:=Df.out;have:=Eh.out;have:=BJ.out;first|omega|exact Nat.le_refl _⟩,⟨by (with_reducible repeat (first|apply aC|apply aG|apply aA));exact xO.out⟩,⟨by (with_reducible repeat (first|apply aC|apply aG|apply aA));exact xK.out⟩,⟨by repeat (first|(with_reducible first|exact HB.out|apply ay|apply aj|apply av|refine ak ?_ xU.out|refine ak ?_ yc.out)|exact HB.out)⟩⟩
            case rest =>
             clear E5
             try clear c1
             try clear p1
             try clear q1
             try clear hx1
             try clear c2
             try clear c2b0
             try clear c2b1
             try clear p2
             try clear c3
             try clear c4
             try clear p6
             try clear c7
             try clear c7b0
             try clear c8
             try clear c8b0
             try clear c12
             try clear c15
             try clear c17
             try clear c18
             try clear EU
             try clear EW
             try clear Es
             try clear c19
             try clear Fh
             try clear Fj
             try clear EZ
             try clear c23
             try clear FI
             try clear FJ
             try clear c28
             try clear Em
             try clear c30b0
             try clear c32
             try clear c32b0
             try clear EX
             try clear c33b0
             try clear c34
             try clear c37
             try clear Eu
             try clear c39b0
             try clear c40
             try clear En
             try clear c42b0
             try clear c42b1
             try clear IL
             try clear IQ
             try clear zW
             try clear zX
             try clear yN
             try clear yO
             try clear yP
             try clear yQ
             try clear yR
             try clear yS
             try clear z8
             try clear Aa
             try clear Ab
             try clear Ac
             try clear Ad
             try clear Ae
             try clear za
             try clear ze
             try clear zf
             try clear zh
             try clear zi
             try clear zk
             try clear Al
             try clear Am
             try clear Ao
             try clear Ap
             try clear Aq
             try clear Ar
             try clear AB
             try clear AJ
             try clear AL
             try clear AO
             try clear AP
             try clear AQ
             try clear Bh
             try clear Bj
             try clear Bl
             try clear Bn
             try clear Bo
             try clear Bp
             try clear Bz
             try clear BA
             try clear BL
             try clear BM
             try clear BN
             try clear BO
             try clear BP
             try clear BQ
             try clear Cc
             try clear Ce
             try clear Cg
             try clear Ch
             try clear Ci
             try clear Cj
             try clear Ct
             try clear Cu
             try clear Cv
             try clear Cw
             try clear Cx
             try clear Cy
             try clear zN
             try clear zO
             try clear zR
             try clear zS
             try clear zY
             try clear zZ
             try clear yT
             try clear yU
             try clear yV
             try clear yX
             try clear yY
             try clear yZ
             try clear Af
             try clear Ag
             try clear Ah
             try clear Ai
             try clear Aj
             try clear Ak
             try clear zl
             try clear zm
             try clear zn
             try clear zo
             try clear zq
             try clear zu
             try clear Au
             try clear Av
             try clear Aw
             try clear Ay
             try clear Az
             try clear AA
             try clear AU
             try clear AV
             try clear AX
             try clear AY
             try clear AZ
             try clear A9
             try clear Bq
             try clear Br
             try clear Bt
             try clear Bu
             try clear Bv
             try clear Bw
             try clear BF
             try clear BG
             try clear BR
             try clear BS
             try clear BU
             try clear BZ
             try clear Ca
             try clear Cb
             try clear Ck
             try clear Cm
             try clear Cn
             try clear Co
             try clear Cq
             try clear Cr
             try clear Cz
             try clear CB
             try clear CF
             try clear CG
             try clear CJ
             try clear CK
             try clear zP
             try clear zQ
             try clear zT
             try clear zU
             try clear yE
             try clear yF
             try clear yG
             try clear yH
             try clear yI
             try clear yJ
             try clear zw
             try clear zx
             try clear zy
             try clear zA
             try clear zB
             try clear zC
             try clear p1
             try clear EU
             try clear CQ
             try clear Fh
             try clear CX
             try clear p2
             try clear p6
             try clear q1
             try clear EW
             try clear CS
             try clear Fj
             try clear CY
             obtain ⟨kq,BK,rfl,HA,Ef,xO,xK,HB⟩:=hcut
             cases kq with
             | zero=>exact absurd HA.out (by simp [aJ.j3])
             | succ E8 =>
              have H:=HA.out
              clear HA
              simp only [aJ.j3] at H
              by_cases Fp : BK = true
              ·subst Fp
               have H1 : (some 7) = some r:=by rw [if_pos rfl] at H;exact H
               clear H
               have H:=H1
               clear H1
               obtain rfl:=Option.some.inj H
               go_wp2
               repeat (go_quiet (fail);try go_wp2)
               go_ret
               exact ⟨by first|rfl|(simp [aZ,bf] <;> rfl)|(simp [*,aZ,bf] <;> rfl),by repeat (first|(with_reducible first|exact HB.out|apply ay|apply aj|apply av|refine ak ?_ xU.out|refine ak ?_ yc.out)|exact HB.out)⟩
              ·replace Fp:=Bool.eq_false_iff.mpr Fp
               subst Fp
               have H1 : (if (((ah xI xJ).f5).length : Int) = 0 then (some 16) else (if (((ah xI xJ).f5).length : Int) > 16 then (some 18) else (aJ.l1 E8 xJ 0 xS xI ((ah xI xJ).f0) ((ah xI xJ).f1) ((ah xI xJ).f2) ((ah xI xJ).f3) ((ah xI xJ).f4) ((ah xI xJ).f5)))) = some r:=by rw [if_neg (show ¬ (false = true) by decide)] at H;exact H
               clear H
               have H:=H1
               clear H1
               by_cases Eo : (((ah xI xJ).f5).length : Int) = 0
               ·rw [if_pos Eo] at H
                have c48b0 : ((((ah xI xJ).f5).length : Int) == 0) = true:=beq_iff_eq.mpr Eo
                have c48b1 : ((((ah xI xJ).f5).length : Int) != 0) = false:=bne_eq_false_iff_eq.mpr Eo
                clear Eo
                obtain rfl:=Option.some.inj H
                have IU:=xR.out
                have IV:=xM.out
                have Dn : wc.cell? ⟨xL,0,none⟩ = some (.string ((ah xI xJ).f0)):=(au xK.out 0).trans rfl
                have Dp : wc.cell? ⟨xL,1,none⟩ = some (.string ((ah xI xJ).f1)):=(au xK.out 1).trans rfl
                have Dq : wc.cell? ⟨xL,2,none⟩ = some (.string ((ah xI xJ).f2)):=(au xK.out 2).trans rfl
                have Dr : wc.cell? ⟨xL,3,none⟩ = some (.int .u8 ((ah xI xJ).f3)):=(au xK.out 3).trans rfl
                have Dt : wc.cell? ⟨xL,4,none⟩ = some (.int .u16 ((ah xI xJ).f4)):=(au xK.out 4).trans rfl
                have Du : wc.cell? ⟨xL,5,none⟩ = some (.slice xY ((ah xI xJ).f5).length xX):=(au xK.out 5).trans rfl
                have Dv:=aH xK.out 0
                have Dw:=aH xK.out 1
                have Dx:=aH xK.out 2
                have Dy:=aH xK.out 3
                have Dz:=aH xK.out 4
                have DC:=aH xK.out 5
                go_wp2
                repeat (go_quiet (fail);try go_wp2)
                go_ret
                exact ⟨by first|rfl|(simp [aZ,bf] <;> rfl)|(simp [*,aZ,bf] <;> rfl),by repeat (first|(with_reducible first|exact HB.out|apply ay|apply aj|apply av|refine ak ?_ xU.out|refine ak ?_ yc.out)|exact HB.out)⟩
               ·rw [if_neg Eo] at H
                have c48b0 : ((((ah xI xJ).f5).length : Int) == 0) = false:=beq_eq_false_iff_ne.mpr Eo
                have c48b1 : ((((ah xI xJ).f5).length : Int) != 0) = true:=bne_iff_ne.mpr Eo
                have c48b2 : ¬ (((ah xI xJ).f5) = []):=fun h_=>Eo (by rw [h_];rfl)
                by_cases c51 : (((ah xI xJ).f5).length : Int) > 16
                ·rw [if_pos c51] at H
                 have c51b0 : decide (16 < (((ah xI xJ).f5).length : Int)) = true:=decide_eq_true c51
                 have c51b1 : decide (16 < ((ah xI xJ).f5).length) = true:=decide_eq_true (by omega)
                 clear c51
                 obtain rfl:=Option.some.inj H
                 have IW:=xR.out
                 have IX:=xM.out
                 have DF : wc.cell? ⟨xL,0,none⟩ = some (.string ((ah xI xJ).f0)):=(au xK.out 0).trans rfl
                 have DI : wc.cell? ⟨xL,1,none⟩ = some (.string ((ah xI xJ).f1)):=(au xK.out 1).trans rfl
                 have DJ : wc.cell? ⟨xL,2,none⟩ = some (.string ((ah xI xJ).f2)):=(au xK.out 2).trans rfl
                 have DK : wc.cell? ⟨xL,3,none⟩ = some (.int .u8 ((ah xI xJ).f3)):=(au xK.out 3).trans rfl
                 have DL : wc.cell? ⟨xL,4,none⟩ = some (.int .u16 ((ah xI xJ).f4)):=(au xK.out 4).trans rfl
                 have DN : wc.cell? ⟨xL,5,none⟩ = some (.slice xY ((ah xI xJ).f5).length xX):=(au xK.out 5).trans rfl
                 have DR:=aH xK.out 0
                 have DT:=aH xK.out 1
                 have DU:=aH xK.out 2
                 have DV:=aH xK.out 3
                 have DW:=aH xK.out 4
                 have DX:=aH xK.out 5
                 go_wp2
                 repeat (go_quiet (fail);try go_wp2)
                 go_ret
                 exact ⟨by first|rfl|(simp [aZ,bf] <;> rfl)|(simp [*,aZ,bf] <;> rfl),by repeat (first|(with_reducible first|exact HB.out|apply ay|apply aj|apply av|refine ak ?_ xU.out|refine ak ?_ yc.out)|exact HB.out)⟩
                ·rw [if_neg c51] at H
                 have c51b0 : decide (16 < (((ah xI xJ).f5).length : Int)) = false:=decide_eq_false c51
                 have c51b1 : decide (16 < ((ah xI xJ).f5).length) = false:=decide_eq_false (by omega)
                 clear c51
                 have H':=Aside0.mk H
                 clear H
                 have IY:=xR.out
                 have IZ:=xM.out
                 have DY : wc.cell? ⟨xL,0,none⟩ = some (.string ((ah xI xJ).f0)):=(au xK.out 0).trans rfl
                 have DZ : wc.cell? ⟨xL,1,none⟩ = some (.string ((ah xI xJ).f1)):=(au xK.out 1).trans rfl
                 have D5 : wc.cell? ⟨xL,2,none⟩ = some (.string ((ah xI xJ).f2)):=(au xK.out 2).trans rfl
                 have D6 : wc.cell? ⟨xL,3,none⟩ = some (.int .u8 ((ah xI xJ).f3)):=(au xK.out 3).trans rfl
                 have D7 : wc.cell? ⟨xL,4,none⟩ = some (.int .u16 ((ah xI xJ).f4)):=(au xK.out 4).trans rfl
                 have D8 : wc.cell? ⟨xL,5,none⟩ = some (.slice xY ((ah xI xJ).f5).length xX):=(au xK.out 5).trans rfl
                 have D9:=aH xK.out 0
                 have Ea:=aH xK.out 1
                 have Eb:=aH xK.out 2
                 have Ec:=aH xK.out 3
                 have Ed:=aH xK.out 4
                 have Ee:=aH xK.out 5
                 go_wp2
                 repeat (go_quiet (fail);try go_wp2)
                 go_loopg [5] E8 (fun kq v5 w'=>∃ (xV : Int),v5 = .int .i64 xV ∧ Aside0 (aJ.l1 kq xJ xV xS xI ((ah xI xJ).f0) ((ah xI xJ).f1) ((ah xI xJ).f2) ((ah xI xJ).f3) ((ah xI xJ).f4) ((ah xI xJ).f5) = some r) ∧ Aside0 (kq ≤ E8) ∧ Aside0 (w'.heap[xQ]? = some (.cells #[.int .u64 xS,(.slice (some yx) xI.length yh)] 53 (0,0))) ∧ Aside0 (w'.heap[xL]? = some (.cells #[.string ((ah xI xJ).f0),.string ((ah xI xJ).f1),.string ((ah xI xJ).f2),.int .u8 ((ah xI xJ).f3),.int .u16 ((ah xI xJ).f4),(.slice xY ((ah xI xJ).f5).length xX)] 103 (0,0))) ∧ Aside0 (Below w.heap.size w w'))
                 case atStart=>exact ⟨(0),(by first|rfl|(simp;done)|(simp [*];done)),H',⟨Nat.le_refl _⟩,⟨by (with_reducible repeat (first|apply aC|apply aG|apply aA));exact xO.out⟩,⟨by (with_reducible repeat (first|apply aC|apply aG|apply aA));exact xK.out⟩,⟨by repeat (first|(with_reducible first|exact HB.out|apply ay|apply aj|apply av|refine ak ?_ xU.out|refine ak ?_ yc.out)|exact HB.out)⟩⟩
                 case round =>
                  clear H'
                  try clear c1
                  try clear p1
                  try clear q1
                  try clear hx1
                  try clear c2
                  try clear c2b0
                  try clear c2b1
                  try clear p2
                  try clear c3
                  try clear c4
                  try clear c5
                  try clear p6
                  try clear c7
                  try clear c7b0
                  try clear c8
                  try clear c8b0
                  try clear c12
                  try clear c15
                  try clear c17
                  try clear c18
                  try clear EU
                  try clear EW
                  try clear Es
                  try clear c19
                  try clear Fh
                  try clear Fj
                  try clear EZ
                  try clear c23
                  try clear FI
                  try clear FJ
                  try clear c28
                  try clear Em
                  try clear c30b0
                  try clear c32
                  try clear c32b0
                  try clear EX
                  try clear c33b0
                  try clear c34
                  try clear c37
                  try clear Eu
                  try clear c39b0
                  try clear c40
                  try clear En
                  try clear c42b0
                  try clear c42b1
                  try clear IL
                  try clear IQ
                  try clear Fp
                  try clear Eo
                  try clear c48b0
                  try clear c48b1
                  try clear c48b2
                  try clear c49
                  try clear c51
                  try clear c51b0
                  try clear c51b1
                  try clear Jl
                  try clear Jm
                  try clear zW
                  try clear zX
                  try clear yN
                  try clear yO
                  try clear yP
                  try clear yQ
                  try clear yR
                  try clear yS
                  try clear z8
                  try clear Aa
                  try clear Ab
                  try clear Ac
                  try clear Ad
                  try clear Ae
                  try clear za
                  try clear ze
                  try clear zf
                  try clear zh
                  try clear zi
                  try clear zk
                  try clear Al
                  try clear Am
                  try clear Ao
                  try clear Ap
                  try clear Aq
                  try clear Ar
                  try clear AB
                  try clear AJ
                  try clear AL
                  try clear AO
                  try clear AP
                  try clear AQ
                  try clear Bh
                  try clear Bj
                  try clear Bl
                  try clear Bn
                  try clear Bo
                  try clear Bp
                  try clear Bz
                  try clear BA
                  try clear BL
                  try clear BM
                  try clear BN
                  try clear BO
                  try clear BP
                  try clear BQ
                  try clear Cc
                  try clear Ce
                  try clear Cg
                  try clear Ch
                  try clear Ci
                  try clear Cj
                  try clear Ct
                  try clear Cu
                  try clear Cv
                  try clear Cw
                  try clear Cx
                  try clear Cy
                  try clear zN
                  try clear zO
                  try clear Dn
                  try clear Dp
                  try clear Dq
                  try clear Dr
                  try clear Dt
                  try clear Du
                  try clear DF
                  try clear DI
                  try clear DJ
                  try clear DK
                  try clear DL
                  try clear DN
                  try clear DY
                  try clear DZ
                  try clear D5
                  try clear D6
                  try clear D7
                  try clear D8
                  try clear zR
                  try clear zS
                  try clear zY
                  try clear zZ
                  try clear yT
                  try clear yU
                  try clear yV
                  try clear yX
                  try clear yY
                  try clear yZ
                  try clear Af
                  try clear Ag
                  try clear Ah
                  try clear Ai
                  try clear Aj
                  try clear Ak
                  try clear zl
                  try clear zm
                  try clear zn
                  try clear zo
                  try clear zq
                  try clear zu
                  try clear Au
                  try clear Av
                  try clear Aw
                  try clear Ay
                  try clear Az
                  try clear AA
                  try clear AU
                  try clear AV
                  try clear AX
                  try clear AY
                  try clear AZ
                  try clear A9
                  try clear Bq
                  try clear Br
                  try clear Bt
                  try clear Bu
                  try clear Bv
                  try clear Bw
                  try clear BF
                  try clear BG
                  try clear BR
                  try clear BS
                  try clear BU
                  try clear BZ
                  try clear Ca
                  try clear Cb
                  try clear Ck
                  try clear Cm
                  try clear Cn
                  try clear Co
                  try clear Cq
                  try clear Cr
                  try clear Cz
                  try clear CB
                  try clear CF
                  try clear CG
                  try clear CJ
                  try clear CK
                  try clear zP
                  try clear zQ
                  try clear Dv
                  try clear Dw
                  try clear Dx
                  try clear Dy
                  try clear Dz
                  try clear DC
                  try clear DR
                  try clear DT
                  try clear DU
                  try clear DV
                  try clear DW
                  try clear DX
                  try clear D9
                  try clear Ea
                  try clear Eb
                  try clear Ec
                  try clear Ed
                  try clear Ee
                  try clear zT
                  try clear zU
                  try clear yE
                  try clear yF
                  try clear yG
                  try clear yH
                  try clear yI
                  try clear yJ
                  try clear zw
                  try clear zx
                  try clear zy
                  try clear zA
                  try clear zB
                  try clear zC
                  try clear p1
                  try clear EU
                  try clear CQ
                  try clear Fh
                  try clear CX
                  try clear p2
                  try clear p6
                  try clear q1
                  try clear EW
                  try clear CS
                  try clear Fj
                  try clear CY
                  obtain ⟨xV,rfl,HA,Fq,xO,xK,HB⟩:=hrel
                  cases gk with
                  | zero=>exact absurd HA.out (by simp [aJ.l1])
                  | succ k5 =>
                   have H:=HA.out
                   clear HA
                   simp only [aJ.l1] at H
                   by_cases E9 : xV < (((ah xI xJ).f5).length : Int)
                   ·rw [if_pos E9] at H
                    have c56b0 : decide (xV < (((ah xI xJ).f5).length : Int)) = true:=decide_eq_true E9
                    clear E9
                    by_cases FC : 0 ≤ xV
                    ·rw [if_pos FC] at H
                     have c57b0 : decide (0 ≤ xV) = true:=decide_eq_true FC
                     clear FC
                     replace H:=Option.bind_eq_some_iff.mp H
                     obtain ⟨t194,FD,H⟩:=H
                     replace H : (if t194 = true then (aJ.l2 k5 xJ xV 0 xS xI ((ah xI xJ).f0) ((ah xI xJ).f1) ((ah xI xJ).f2) ((ah xI xJ).f3) ((ah xI xJ).f4) ((ah xI xJ).f5)) else (some 13)) = some r:=H
                     have Fu:=Aside0.mk FD
                     clear FD
                     by_cases c59 : t194 = true
                     ·subst c59
                      have H1 : (aJ.l2 k5 xJ xV 0 xS xI ((ah xI xJ).f0) ((ah xI xJ).f1) ((ah xI xJ).f2) ((ah xI xJ).f3) ((ah xI xJ).f4) ((ah xI xJ).f5)) = some r:=by rw [if_pos rfl] at H;exact H
                      clear H
                      have H:=H1
                      clear H1
                      have H':=Aside0.mk H
                      clear H
                      have I4:=xR.out
                      have I5:=xM.out
                      have Ew : wr.cell? ⟨xL,0,none⟩ = some (.string ((ah xI xJ).f0)):=(au xK.out 0).trans rfl
                      have Ey : wr.cell? ⟨xL,1,none⟩ = some (.string ((ah xI xJ).f1)):=(au xK.out 1).trans rfl
                      have Ez : wr.cell? ⟨xL,2,none⟩ = some (.string ((ah xI xJ).f2)):=(au xK.out 2).trans rfl
                      have EA : wr.cell? ⟨xL,3,none⟩ = some (.int .u8 ((ah xI xJ).f3)):=(au xK.out 3).trans rfl
                      have EB : wr.cell? ⟨xL,4,none⟩ = some (.int .u16 ((ah xI xJ).f4)):=(au xK.out 4).trans rfl
                      have EC : wr.cell? ⟨xL,5,none⟩ = some (.slice xY ((ah xI xJ).f5).length xX):=(au xK.out 5).trans rfl
                      have ED:=aH xK.out 0
                      have EF:=aH xK.out 1
                      have EG:=aH xK.out 2
                      have EH:=aH xK.out 3
                      have EI:=aH xK.out 4
                      have EJ:=aH xK.out 5
                      have CU : 0 ≤ (xV : Int):=of_decide_eq_true (by first|(with_reducible assumption)|assumption)
                      have CV : xV < (((ah xI xJ).f5).length : Int):=of_decide_eq_true (by first|(with_reducible assumption)|assumption)
                      obtain ⟨zL,Fa,yL,yM⟩:=gK yK.out xV CU CV
                      cases Fa
                      replace yL:=(HB.out.cell (World.block_lt_of_cell? w _ yL)).trans yL
                      replace yM:=(HB.out.cell (World.block_lt_of_cell? w _ yM)).trans yM
                      replace CU:=eq_true CU
                      replace CV:=eq_true CV
                      go_wp2_with (first|(go_at_call 54;(with_reducible refine (bC.calls k5 ((dD ((ah xI xJ).f5) xV).f0) true _ Fu.out).mono ?_);rintro e w' ⟨rfl,⟨nd,rfl⟩⟩;(try first|exact ⟨rfl,_,World.drewN_drewN _ _ _⟩|exact ⟨rfl,_,Eq.trans (World.drewN_drewN _ _ _) (congrArg (World.drewN _) (Nat.add_assoc _ _ _))⟩)))
                      repeat (go_quiet (first|(go_at_call 54;(with_reducible refine (bC.calls k5 ((dD ((ah xI xJ).f5) xV).f0) true _ Fu.out).mono ?_);rintro e w' ⟨rfl,⟨nd,rfl⟩⟩;(try first|exact ⟨rfl,_,World.drewN_drewN _ _ _⟩|exact ⟨rfl,_,Eq.trans (World.drewN_drewN _ _ _) (congrArg (World.drewN _) (Nat.add_assoc _ _ _))⟩)));try go_wp2_with (first|(go_at_call 54;(with_reducible refine (bC.calls k5 ((dD ((ah xI xJ).f5) xV).f0) true _ Fu.out).mono ?_);rintro e w' ⟨rfl,⟨nd,rfl⟩⟩;(try first|exact ⟨rfl,_,World.drewN_drewN _ _ _⟩|exact ⟨rfl,_,Eq.trans (World.drewN_drewN _ _ _) (congrArg (World.drewN _) (Nat.add_assoc _ _ _))⟩))))
                      go_loopg [6] k5 (fun kq v6 w'=>∃ (yA : Int),v6 = .int .i64 yA ∧ Aside0 (aJ.l2 kq xJ xV yA xS xI ((ah xI xJ).f0) ((ah xI xJ).f1) ((ah xI xJ).f2) ((ah xI xJ).f3) ((ah xI xJ).f4) ((ah xI xJ).f5) = some r) ∧ Aside0 (kq ≤ k5) ∧ Aside0 (w'.heap[xQ]? = some (.cells #[.int .u64 xS,(.slice (some yx) xI.length yh)] 53 (0,0))) ∧ Aside0 (w'.heap[xL]? = some (.cells #[.string ((ah xI xJ).f0),.string ((ah xI xJ).f1),.string ((ah xI xJ).f2),.int .u8 ((ah xI xJ).f3),.int .u16 ((ah xI xJ).f4),(.slice (some zL) ((ah xI xJ).f5).length xX)] 103 (0,0))) ∧ Aside0 (Below w.heap.size w w'))
                      case atStart=>exact ⟨(0),(by first|rfl|(simp;done)|(simp [*];done)),H',⟨Nat.le_refl _⟩,⟨by (with_reducible repeat (first|apply aC|apply aG|apply aA));exact xO.out⟩,⟨by (with_reducible repeat (first|apply aC|apply aG|apply aA));exact xK.out⟩,⟨by repeat (first|(with_reducible first|exact HB.out|apply ay|apply aj|apply av|refine ak ?_ xU.out|refine ak ?_ yc.out)|exact HB.out)⟩⟩
                      case round =>
                       clear H'
                       try clear c1
                       try clear p1
                       try clear q1
                       try clear hx1
                       try clear c2
                       try clear c2b0
                       try clear c2b1
                       try clear p2
                       try clear c3
                       try clear c4
                       try clear c5
                       try clear c6
                       try clear p6
                       try clear c7
                       try clear c7b0
                       try clear c8
                       try clear c8b0
                       try clear c12
                       try clear c15
                       try clear c17
                       try clear c18
                       try clear EU
                       try clear EW
                       try clear Es
                       try clear c19
                       try clear Fh
                       try clear Fj
                       try clear EZ
                       try clear c23
                       try clear FI
                       try clear FJ
                       try clear c28
                       try clear Em
                       try clear c30b0
                       try clear c32
                       try clear c32b0
                       try clear EX
                       try clear c33b0
                       try clear c34
                       try clear c37
                       try clear Eu
                       try clear c39b0
                       try clear c40
                       try clear En
                       try clear c42b0
                       try clear c42b1
                       try clear IL
                       try clear IQ
                       try clear Fp
                       try clear Eo
                       try clear c48b0
                       try clear c48b1
                       try clear c48b2
                       try clear c49
                       try clear c51
                       try clear c51b0
                       try clear c51b1
                       try clear Jl
                       try clear Jm
                       try clear E9
                       try clear c56b0
                       try clear FC
                       try clear c57b0
                       try clear c59
                       try clear Jo
                       try clear zW
                       try clear zX
                       try clear yN
                       try clear yO
                       try clear yP
                       try clear yQ
                       try clear yR
                       try clear yS
                       try clear z8
                       try clear Aa
                       try clear Ab
                       try clear Ac
                       try clear Ad
                       try clear Ae
                       try clear za
                       try clear ze
                       try clear zf
                       try clear zh
                       try clear zi
                       try clear zk
                       try clear Al
                       try clear Am
                       try clear Ao
                       try clear Ap
                       try clear Aq
                       try clear Ar
                       try clear AB
                       try clear AJ
                       try clear AL
                       try clear AO
                       try clear AP
                       try clear AQ
                       try clear Bh
                       try clear Bj
                       try clear Bl
                       try clear Bn
                       try clear Bo
                       try clear Bp
                       try clear Bz
                       try clear BA
                       try clear BL
                       try clear BM
                       try clear BN
                       try clear BO
                       try clear BP
                       try clear BQ
                       try clear Cc
                       try clear Ce
                       try clear Cg
                       try clear Ch
                       try clear Ci
                       try clear Cj
                       try clear Ct
                       try clear Cu
                       try clear Cv
                       try clear Cw
                       try clear Cx
                       try clear Cy
                       try clear zN
                       try clear zO
                       try clear Dn
                       try clear Dp
                       try clear Dq
                       try clear Dr
                       try clear Dt
                       try clear Du
                       try clear DF
                       try clear DI
                       try clear DJ
                       try clear DK
                       try clear DL
                       try clear DN
                       try clear DY
                       try clear DZ
                       try clear D5
                       try clear D6
                       try clear D7
                       try clear D8
                       try clear Ew
                       try clear Ey
                       try clear Ez
                       try clear EA
                       try clear EB
                       try clear EC
                       try clear zR
                       try clear zS
                       try clear zY
                       try clear zZ
                       try clear yT
                       try clear yU
                       try clear yV
                       try clear yX
                       try clear yY
                       try clear yZ
                       try clear Af
                       try clear Ag
                       try clear Ah
                       try clear Ai
                       try clear Aj
                       try clear Ak
                       try clear zl
                       try clear zm
                       try clear zn
                       try clear zo
                       try clear zq
                       try clear zu
                       try clear Au
                       try clear Av
                       try clear Aw
                       try clear Ay
                       try clear Az
                       try clear AA
                       try clear AU
                       try clear AV
                       try clear AX
                       try clear AY
                       try clear AZ
                       try clear A9
                       try clear Bq
                       try clear Br
                       try clear Bt
                       try clear Bu
                       try clear Bv
                       try clear Bw
                       try clear BF
                       try clear BG
                       try clear BR
                       try clear BS
                       try clear BU
                       try clear BZ
                       try clear Ca
                       try clear Cb
                       try clear Ck
                       try clear Cm
                       try clear Cn
                       try clear Co
                       try clear Cq
                       try clear Cr
                       try clear Cz
                       try clear CB
                       try clear CF
                       try clear CG
                       try clear CJ
                       try clear CK
                       try clear zP
                       try clear zQ
                       try clear Dv
                       try clear Dw
                       try clear Dx
                       try clear Dy
                       try clear Dz
                       try clear DC
                       try clear DR
                       try clear DT
                       try clear DU
                       try clear DV
                       try clear DW
                       try clear DX
                       try clear D9
                       try clear Ea
                       try clear Eb
                       try clear Ec
                       try clear Ed
                       try clear Ee
                       try clear ED
                       try clear EF
                       try clear EG
                       try clear EH
                       try clear EI
                       try clear EJ
                       try clear zT
                       try clear zU
                       try clear yE
                       try clear yF
                       try clear yG
                       try clear yH
                       try clear yI
                       try clear yJ
                       try clear zw
                       try clear zx
                       try clear zy
                       try clear zA
                       try clear zB
                       try clear zC
                       try clear yL
                       try clear yM
                       try clear p1
                       try clear EU
                       try clear CQ
                       try clear Fh
                       try clear CX
                       try clear CU
                       try clear p2
                       try clear p6
                       try clear q1
                       try clear EW
                       try clear CS
                       try clear Fj
                       try clear CY
                       try clear CV
                       obtain ⟨yA,rfl,HA,FP,xO,xK,HB⟩:=hrel
                       cases gk with
                       | zero=>exact absurd HA.out (by simp [aJ.l2])
                       | succ k6 =>
                        have H:=HA.out
                        clear HA
                        simp only [aJ.l2] at H
                        by_cases Fv : yA < xV
                        ·rw [if_pos Fv] at H
                         have c62b0 : decide (yA < xV) = true:=decide_eq_true Fv
                         clear Fv
                         by_cases FQ : 0 ≤ yA
                         ·rw [if_pos FQ] at H
                          have c63b0 : decide (0 ≤ yA) = true:=decide_eq_true FQ
                          clear FQ
                          by_cases c64 : yA < (((ah xI xJ).f5).length : Int)
                          ·rw [if_pos c64] at H
                           have c64b0 : decide (yA < (((ah xI xJ).f5).length : Int)) = true:=decide_eq_true c64
                           clear c64
                           by_cases FR : 0 ≤ xV
                           ·rw [if_pos FR] at H
                            have c65b0 : decide (0 ≤ xV) = true:=decide_eq_true FR
                            clear FR
                            by_cases FT : xV < (((ah xI xJ).f5).length : Int)
                            ·rw [if_pos FT] at H
                             have c66b0 : decide (xV < (((ah xI xJ).f5).length : Int)) = true:=decide_eq_true FT
                             clear FT
                             by_cases Fb : ((dD ((ah xI xJ).f5) yA).f0).toList = ((dD ((ah xI xJ).f5) xV).f0).toList
                             ·rw [if_pos Fb] at H
                              have c67b0 : (((dD ((ah xI xJ).f5) yA).f0).toList == ((dD ((ah xI xJ).f5) xV).f0).toList) = true:=beq_iff_eq.mpr Fb
                              have c67b1 : (((dD ((ah xI xJ).f5) yA).f0).toList != ((dD ((ah xI xJ).f5) xV).f0).toList) = false:=bne_eq_false_iff_eq.mpr Fb
                              clear Fb
                              obtain rfl:=Option.some.inj H
                              have I6:=xR.out
                              have I7:=xM.out
                              have FU : wr.cell? ⟨xL,0,none⟩ = some (.string ((ah xI xJ).f0)):=(au xK.out 0).trans rfl
                              have FV : wr.cell? ⟨xL,1,none⟩ = some (.string ((ah xI xJ).f1)):=(au xK.out 1).trans rfl
                              have FW : wr.cell? ⟨xL,2,none⟩ = some (.string ((ah xI xJ).f2)):=(au xK.out 2).trans rfl
                              have FX : wr.cell? ⟨xL,3,none⟩ = some (.int .u8 ((ah xI xJ).f3)):=(au xK.out 3).trans rfl
                              have FY : wr.cell? ⟨xL,4,none⟩ = some (.int .u16 ((ah xI xJ).f4)):=(au xK.out 4).trans rfl
                              have FZ : wr.cell? ⟨xL,5,none⟩ = some (.slice (some zL) ((ah xI xJ).f5).length xX):=(au xK.out 5).trans rfl
                              have F3:=aH xK.out 0
                              have F4:=aH xK.out 1
                              have F5:=aH xK.out 2
                              have F6:=aH xK.out 3
                              have F7:=aH xK.out 4
                              have F8:=aH xK.out 5
                              have CZ : 0 ≤ (yA : Int):=of_decide_eq_true (by first|(with_reducible assumption)|assumption)
                              have C8 : yA < (((ah xI xJ).f5).length : Int):=of_decide_eq_true (by first|(with_reducible assumption)|assumption)
                              obtain ⟨Ei,e195,zD,zF⟩:=gK yK.out yA CZ C8
                              obtain rfl : zL = Ei:=(by injection e195)
                              replace zD:=(HB.out.cell (World.block_lt_of_cell? w _ zD)).trans zD
                              replace zF:=(HB.out.cell (World.block_lt_of_cell? w _ zF)).trans zF
                              replace CZ:=eq_true CZ
                              replace C8:=eq_true C8
                              have C9 : 0 ≤ (xV : Int):=of_decide_eq_true (by first|(with_reducible assumption)|assumption)
                              have Da : xV < (((ah xI xJ).f5).length : Int):=of_decide_eq_true (by first|(with_reducible assumption)|assumption)
                              obtain ⟨Ej,Fe,zG,zH⟩:=gK yK.out xV C9 Da
                              obtain rfl : zL = Ej:=(by injection Fe)
                              replace zG:=(HB.out.cell (World.block_lt_of_cell? w _ zG)).trans zG
                              replace zH:=(HB.out.cell (World.block_lt_of_cell? w _ zH)).trans zH
                              replace C9:=eq_true C9
                              replace Da:=eq_true Da
                              go_wp2
                              repeat (go_quiet (fail);try go_wp2)
                              go_ret
                              exact ⟨by first|rfl|(simp [aZ,bf] <;> rfl)|(simp [*,aZ,bf] <;> rfl),by repeat (first|(with_reducible first|exact HB.out|apply ay|apply aj|apply av|refine ak ?_ xU.out|refine ak ?_ yc.out)|exact HB.out)⟩
                             ·rw [if_neg Fb] at H
                              have c67b0 : (((dD ((ah xI xJ).f5) yA).f0).toList == ((dD ((ah xI xJ).f5) xV).f0).toList) = false:=beq_eq_false_iff_ne.mpr Fb
                              have c67b1 : (((dD ((ah xI xJ).f5) yA).f0).toList != ((dD ((ah xI xJ).f5) xV).f0).toList) = true:=bne_iff_ne.mpr Fb
                              have H':=Aside0.mk H
                              clear H
                              have I8:=xR.out
                              have I9:=xM.out
                              have F9 : wr.cell? ⟨xL,0,none⟩ = some (.string ((ah xI xJ).f0)):=(au xK.out 0).trans rfl
                              have Ga : wr.cell? ⟨xL,1,none⟩ = some (.string ((ah xI xJ).f1)):=(au xK.out 1).trans rfl
                              have Gb : wr.cell? ⟨xL,2,none⟩ = some (.string ((ah xI xJ).f2)):=(au xK.out 2).trans rfl
                              have Gc : wr.cell? ⟨xL,3,none⟩ = some (.int .u8 ((ah xI xJ).f3)):=(au xK.out 3).trans rfl
                              have Gd : wr.cell? ⟨xL,4,none⟩ = some (.int .u16 ((ah xI xJ).f4)):=(au xK.out 4).trans rfl
                              have Gf : wr.cell? ⟨xL,5,none⟩ = some (.slice (some zL) ((ah xI xJ).f5).length xX):=(au xK.out 5).trans rfl
                              have Gg:=aH xK.out 0
                              have Gh:=aH xK.out 1
                              have Gi:=aH xK.out 2
                              have Gj:=aH xK.out 3
                              have Gl:=aH xK.out 4
                              have Gm:=aH xK.out 5
                              have CZ : 0 ≤ (yA : Int):=of_decide_eq_true (by first|(with_reducible assumption)|assumption)
                              have C8 : yA < (((ah xI xJ).f5).length : Int):=of_decide_eq_true (by first|(with_reducible assumption)|assumption)
                              obtain ⟨Ei,e195,zD,zF⟩:=gK yK.out yA CZ C8
                              obtain rfl : zL = Ei:=(by injection e195)
                              replace zD:=(HB.out.cell (World.block_lt_of_cell? w _ zD)).trans zD
                              replace zF:=(HB.out.cell (World.block_lt_of_cell? w _ zF)).trans zF
                              replace CZ:=eq_true CZ
                              replace C8:=eq_true C8
                              have C9 : 0 ≤ (xV : Int):=of_decide_eq_true (by first|(with_reducible assumption)|assumption)
                              have Da : xV < (((ah xI xJ).f5).length : Int):=of_decide_eq_true (by first|(with_reducible assumption)|assumption)
                              obtain ⟨Ej,Fe,zG,zH⟩:=gK yK.out xV C9 Da
                              obtain rfl : zL = Ej:=(by injection Fe)
                              replace zG:=(HB.out.cell (World.block_lt_of_cell? w _ zG)).trans zG
                              replace zH:=(HB.out.cell (World.block_lt_of_cell? w _ zH)).trans zH
                              replace C9:=eq_true C9
                              replace Da:=eq_true Da
                              go_wp2
                              repeat (go_quiet (fail);try go_wp2)
                              go_roundg k6
                              case measure=>have:=Df.out;have:=Eh.out;have:=BJ.out;have:=Ef.out;have:=Fq.out;have:=FP.out;omega
                              case rel=>exact ⟨(wrap64 (yA + 1)),(by first|rfl|(simp;done)|(simp [*];done)),H',⟨by have:=Df.out;have:=Eh.out;have:=BJ.out;have:=Ef.out;have:=Fq.out;have:=FP.out;omega⟩,⟨by (with_reducible repeat (first|apply aC|apply aG|apply aA));exact xO.out⟩,⟨by (with_reducible repeat (first|apply aC|apply aG|apply aA));exact xK.out⟩,⟨by repeat (first|(with_reducible first|exact HB.out|apply ay|apply aj|apply av|refine ak ?_ xU.out|refine ak ?_ yc.out)|exact HB.out)⟩⟩
                            ·rw [if_neg FT] at H
                             exact absurd H (by simp)
                           ·rw [if_neg FR] at H
                            exact absurd H (by simp)
                          ·rw [if_neg c64] at H
                           exact absurd H (by simp)
                         ·rw [if_neg FQ] at H
                          exact absurd H (by simp)
                        ·rw [if_neg Fv] at H
                         have c62b0 : decide (yA < xV) = false:=decide_eq_false Fv
                         clear Fv
                         by_cases c72 : 0 ≤ xV
                         ·rw [if_pos c72] at H
                          have c72b0 : decide (0 ≤ xV) = true:=decide_eq_true c72
                          clear c72
                          by_cases Gn : xV < (((ah xI xJ).f5).length : Int)
                          ·rw [if_pos Gn] at H
                           have c73b0 : decide (xV < (((ah xI xJ).f5).length : Int)) = true:=decide_eq_true Gn
                           clear Gn
                           replace H:=Option.bind_eq_some_iff.mp H
                           obtain ⟨t198,FE,H⟩:=H
                           replace H : (if t198 = true then (aJ.l1 k6 xJ (wrap64 (xV + 1)) xS xI ((ah xI xJ).f0) ((ah xI xJ).f1) ((ah xI xJ).f2) ((ah xI xJ).f3) ((ah xI xJ).f4) ((ah xI xJ).f5)) else (some 6)) = some r:=H
                           have Fw:=Aside0.mk FE
                           clear FE
                           by_cases c75 : t198 = true
                           ·subst c75
                            have H1 : (aJ.l1 k6 xJ (wrap64 (xV + 1)) xS xI ((ah xI xJ).f0) ((ah xI xJ).f1) ((ah xI xJ).f2) ((ah xI xJ).f3) ((ah xI xJ).f4) ((ah xI xJ).f5)) = some r:=by rw [if_pos rfl] at H;exact H
                            clear H
                            have H:=H1
                            clear H1
                            have H':=Aside0.mk H
                            clear H
                            have Ja:=xR.out
                            have Jb:=xM.out
                            have Gp : wr.cell? ⟨xL,0,none⟩ = some (.string ((ah xI xJ).f0)):=(au xK.out 0).trans rfl
                            have Gq : wr.cell? ⟨xL,1,none⟩ = some (.string ((ah xI xJ).f1)):=(au xK.out 1).trans rfl
                            have Gr : wr.cell? ⟨xL,2,none⟩ = some (.string ((ah xI xJ).f2)):=(au xK.out 2).trans rfl
                            have Gs : wr.cell? ⟨xL,3,none⟩ = some (.int .u8 ((ah xI xJ).f3)):=(au xK.out 3).trans rfl
                            have Gt : wr.cell? ⟨xL,4,none⟩ = some (.int .u16 ((ah xI xJ).f4)):=(au xK.out 4).trans rfl
                            have Gu : wr.cell? ⟨xL,5,none⟩ = some (.slice (some zL) ((ah xI xJ).f5).length xX):=(au xK.out 5).trans rfl
                            have Gv:=aH xK.out 0
                            have Gw:=aH xK.out 1
                            have Gx:=aH xK.out 2
                            have Gy:=aH xK.out 3
                            have Gz:=aH xK.out 4
                            have GA:=aH xK.out 5
                            have Db : 0 ≤ (xV : Int):=of_decide_eq_true (by first|(with_reducible assumption)|assumption)
                            have Dc : xV < (((ah xI xJ).f5).length : Int):=of_decide_eq_true (by first|(with_reducible assumption)|assumption)
                            obtain ⟨El,e197,zI,zJ⟩:=gK yK.out xV Db Dc
                            obtain rfl : zL = El:=(by injection e197)
                            replace zI:=(HB.out.cell (World.block_lt_of_cell? w _ zI)).trans zI
                            replace zJ:=(HB.out.cell (World.block_lt_of_cell? w _ zJ)).trans zJ
                            replace Db:=eq_true Db
                            replace Dc:=eq_true Dc
                            go_wp2_with (first|(go_at_call 36;(with_reducible refine (bR.calls k6 ((dD ((ah xI xJ).f5) xV).f1) true _ Fw.out).mono ?_);rintro e w' ⟨rfl,⟨nd,rfl⟩⟩;(try first|exact ⟨rfl,_,World.drewN_drewN _ _ _⟩|exact ⟨rfl,_,Eq.trans (World.drewN_drewN _ _ _) (congrArg (World.drewN _) (Nat.add_assoc _ _ _))⟩)))
                            repeat (go_quiet (first|(go_at_call 36;(with_reducible refine (bR.calls k6 ((dD ((ah xI xJ).f5) xV).f1) true _ Fw.out).mono ?_);rintro e w' ⟨rfl,⟨nd,rfl⟩⟩;(try first|exact ⟨rfl,_,World.drewN_drewN _ _ _⟩|exact ⟨rfl,_,Eq.trans (World.drewN_drewN _ _ _) (congrArg (World.drewN _) (Nat.add_assoc _ _ _))⟩)));try go_wp2_with (first|(go_at_call 36;(with_reducible refine (bR.calls k6 ((dD ((ah xI xJ).f5) xV).f1) true _ Fw.out).mono ?_);rintro e w' ⟨rfl,⟨nd,rfl⟩⟩;(try first|exact ⟨rfl,_,World.drewN_drewN _ _ _⟩|exact ⟨rfl,_,Eq.trans (World.drewN_drewN _ _ _) (congrArg (World.drewN _) (Nat.add_assoc _ _ _))⟩))))
                            go_roundg k6
                            case measure=>have:=Df.out;have:=Eh.out;have:=BJ.out;have:=Ef.out;have:=Fq.out;have:=FP.out;omega
                            case rel=>exact ⟨(wrap64 (xV + 1)),(by first|rfl|(simp;done)|(simp [*];done)),H',⟨by have:=Df.out;have:=Eh.out;have:=BJ.out;have:=Ef.out;have:=Fq.out;have:=FP.out;omega⟩,⟨by (with_reducible repeat (first|apply aC|apply aG|apply aA));exact xO.out⟩,⟨by (with_reducible repeat (first|apply aC|apply aG|apply aA));exact xK.out⟩,⟨by repeat (first|(with_reducible first|exact HB.out|apply ay|apply aj|apply av|refine ak ?_ xU.out|refine ak ?_ yc.out)|exact HB.out)⟩⟩
                           ·replace c75:=Bool.eq_false_iff.mpr c75
                            subst c75
                            have H1 : (some 6) = some r:=by rw [if_neg (show ¬ (false = true) by decide)] at H;exact H
                            clear H
                            have H:=H1
                            clear H1
                            obtain rfl:=Option.some.inj H
                            have Jc:=xR.out
                            have Jd:=xM.out
                            have GD : wr.cell? ⟨xL,0,none⟩ = some (.string ((ah xI xJ).f0)):=(au xK.out 0).trans rfl
                            have GH : wr.cell? ⟨xL,1,none⟩ = some (.string ((ah xI xJ).f1)):=(au xK.out 1).trans rfl
                            have GI : wr.cell? ⟨xL,2,none⟩ = some (.string ((ah xI xJ).f2)):=(au xK.out 2).trans rfl
                            have GJ : wr.cell? ⟨xL,3,none⟩ = some (.int .u8 ((ah xI xJ).f3)):=(au xK.out 3).trans rfl
                            have GK : wr.cell? ⟨xL,4,none⟩ = some (.int .u16 ((ah xI xJ).f4)):=(au xK.out 4).trans rfl
                            have GL : wr.cell? ⟨xL,5,none⟩ = some (.slice (some zL) ((ah xI xJ).f5).length xX):=(au xK.out 5).trans rfl
                            have GN:=aH xK.out 0
                            have GQ:=aH xK.out 1
                            have GR:=aH xK.out 2
                            have GU:=aH xK.out 3
                            have GV:=aH xK.out 4
                            have GX:=aH xK.out 5
                            have Db : 0 ≤ (xV : Int):=of_decide_eq_true (by first|(with_reducible assumption)|assumption)
                            have Dc : xV < (((ah xI xJ).f5).length : Int):=of_decide_eq_true (by first|(with_reducible assumption)|assumption)
                            obtain ⟨El,e197,zI,zJ⟩:=gK yK.out xV Db Dc
                            obtain rfl : zL = El:=(by injection e197)
                            replace zI:=(HB.out.cell (World.block_lt_of_cell? w _ zI)).trans zI
                            replace zJ:=(HB.out.cell (World.block_lt_of_cell? w _ zJ)).trans zJ
                            replace Db:=eq_true Db
                            replace Dc:=eq_true Dc
                            go_wp2_with (first|(go_at_call 36;(with_reducible refine (bR.calls k6 ((dD ((ah xI xJ).f5) xV).f1) false _ Fw.out).mono ?_);rintro e w' ⟨rfl,⟨nd,rfl⟩⟩;(try first|exact ⟨rfl,_,World.drewN_drewN _ _ _⟩|exact ⟨rfl,_,Eq.trans (World.drewN_drewN _ _ _) (congrArg (World.drewN _) (Nat.add_assoc _ _ _))⟩)))
                            repeat (go_quiet (first|(go_at_call 36;(with_reducible refine (bR.calls k6 ((dD ((ah xI xJ).f5) xV).f1) false _ Fw.out).mono ?_);rintro e w' ⟨rfl,⟨nd,rfl⟩⟩;(try first|exact ⟨rfl,_,World.drewN_drewN _ _ _⟩|exact ⟨rfl,_,Eq.trans (World.drewN_drewN _ _ _) (congrArg (World.drewN _) (Nat.add_assoc _ _ _))⟩)));try go_wp2_with (first|(go_at_call 36;(with_reducible refine (bR.calls k6 ((dD ((ah xI xJ).f5) xV).f1) false _ Fw.out).mono ?_);rintro e w' ⟨rfl,⟨nd,rfl⟩⟩;(try first|exact ⟨rfl,_,World.drewN_drewN _ _ _⟩|exact ⟨rfl,_,Eq.trans (World.drewN_drewN _ _ _) (congrArg (World.drewN _) (Nat.add_assoc _ _ _))⟩))))
                            go_ret
                            exact ⟨by first|rfl|(simp [aZ,bf] <;> rfl)|(simp [*,aZ,bf] <;> rfl),by repeat (first|(with_reducible first|exact HB.out|apply ay|apply aj|apply av|refine ak ?_ xU.out|refine ak ?_ yc.out)|exact HB.out)⟩
                          ·rw [if_neg Gn] at H
                           exact absurd H (by simp)
                         ·rw [if_neg c72] at H
                          exact absurd H (by simp)
                     ·replace c59:=Bool.eq_false_iff.mpr c59
                      subst c59
                      have H1 : (some 13) = some r:=by rw [if_neg (show ¬ (false = true) by decide)] at H;exact H
                      clear H
                      have H:=H1
                      clear H1
                      obtain rfl:=Option.some.inj H
                      have Je:=xR.out
                      have Jf:=xM.out
                      have GY : wr.cell? ⟨xL,0,none⟩ = some (.string ((ah xI xJ).f0)):=(au xK.out 0).trans rfl
                      have GZ : wr.cell? ⟨xL,1,none⟩ = some (.string ((ah xI xJ).f1)):=(au xK.out 1).trans rfl
                      have G6 : wr.cell? ⟨xL,2,none⟩ = some (.string ((ah xI xJ).f2)):=(au xK.out 2).trans rfl
                      have G7 : wr.cell? ⟨xL,3,none⟩ = some (.int .u8 ((ah xI xJ).f3)):=(au xK.out 3).trans rfl
                      have G8 : wr.cell? ⟨xL,4,none⟩ = some (.int .u16 ((ah xI xJ).f4)):=(au xK.out 4).trans rfl
                      have G9 : wr.cell? ⟨xL,5,none⟩ = some (.slice xY ((ah xI xJ).f5).length xX):=(au xK.out 5).trans rfl
                      have He:=aH xK.out 0
                      have Hf:=aH xK.out 1
                      have Hg:=aH xK.out 2
                      have Hl:=aH xK.out 3
                      have Ho:=aH xK.out 4
                      have Hq:=aH xK.out 5
                      have CU : 0 ≤ (xV : Int):=of_decide_eq_true (by first|(with_reducible assumption)|assumption)
                      have CV : xV < (((ah xI xJ).f5).length : Int):=of_decide_eq_true (by first|(with_reducible assumption)|assumption)
                      obtain ⟨zL,Fa,yL,yM⟩:=gK yK.out xV CU CV
                      cases Fa
                      replace yL:=(HB.out.cell (World.block_lt_of_cell? w _ yL)).trans yL
                      replace yM:=(HB.out.cell (World.block_lt_of_cell? w _ yM)).trans yM
                      replace CU:=eq_true CU
                      replace CV:=eq_true CV
                      go_wp2_with (first|(go_at_call 54;(with_reducible refine (bC.calls k5 ((dD ((ah xI xJ).f5) xV).f0) false _ Fu.out).mono ?_);rintro e w' ⟨rfl,⟨nd,rfl⟩⟩;(try first|exact ⟨rfl,_,World.drewN_drewN _ _ _⟩|exact ⟨rfl,_,Eq.trans (World.drewN_drewN _ _ _) (congrArg (World.drewN _) (Nat.add_assoc _ _ _))⟩)))
                      repeat (go_quiet (first|(go_at_call 54;(with_reducible refine (bC.calls k5 ((dD ((ah xI xJ).f5) xV).f0) false _ Fu.out).mono ?_);rintro e w' ⟨rfl,⟨nd,rfl⟩⟩;(try first|exact ⟨rfl,_,World.drewN_drewN _ _ _⟩|exact ⟨rfl,_,Eq.trans (World.drewN_drewN _ _ _) (congrArg (World.drewN _) (Nat.add_assoc _ _ _))⟩)));try go_wp2_with (first|(go_at_call 54;(with_reducible refine (bC.calls k5 ((dD ((ah xI xJ).f5) xV).f0) false _ Fu.out).mono ?_);rintro e w' ⟨rfl,⟨nd,rfl⟩⟩;(try first|exact ⟨rfl,_,World.drewN_drewN _ _ _⟩|exact ⟨rfl,_,Eq.trans (World.drewN_drewN _ _ _) (congrArg (World.drewN _) (Nat.add_assoc _ _ _))⟩))))
                      go_ret
                      exact ⟨by first|rfl|(simp [aZ,bf] <;> rfl)|(simp [*,aZ,bf] <;> rfl),by repeat (first|(with_reducible first|exact HB.out|apply ay|apply aj|apply av|refine ak ?_ xU.out|refine ak ?_ yc.out)|exact HB.out)⟩
                    ·rw [if_neg FC] at H
                     exact absurd H (by simp)
                   ·rw [if_neg E9] at H
                    have c56b0 : decide (xV < (((ah xI xJ).f5).length : Int)) = false:=decide_eq_false E9
                    clear E9
                    have H':=Aside0.mk H
                    clear H
                    have Jg:=xR.out
                    have Jh:=xM.out
                    have Hr : wr.cell? ⟨xL,0,none⟩ = some (.string ((ah xI xJ).f0)):=(au xK.out 0).trans rfl
                    have Ht : wr.cell? ⟨xL,1,none⟩ = some (.string ((ah xI xJ).f1)):=(au xK.out 1).trans rfl
                    have Hu : wr.cell? ⟨xL,2,none⟩ = some (.string ((ah xI xJ).f2)):=(au xK.out 2).trans rfl
                    have Hw : wr.cell? ⟨xL,3,none⟩ = some (.int .u8 ((ah xI xJ).f3)):=(au xK.out 3).trans rfl
                    have Hy : wr.cell? ⟨xL,4,none⟩ = some (.int .u16 ((ah xI xJ).f4)):=(au xK.out 4).trans rfl
                    have Hz : wr.cell? ⟨xL,5,none⟩ = some (.slice xY ((ah xI xJ).f5).length xX):=(au xK.out 5).trans rfl
                    have HV:=aH xK.out 0
                    have HY:=aH xK.out 1
                    have HZ:=aH xK.out 2
                    have H6:=aH xK.out 3
                    have H7:=aH xK.out 4
                    have H8:=aH xK.out 5
                    go_wp2
                    repeat (go_quiet (fail);try go_wp2)
                    go_roundg k5
                    case measure=>have:=Df.out;have:=Eh.out;have:=BJ.out;have:=Ef.out;have:=Fq.out;omega
                    case rel=>exact ⟨(wrap64 (xJ + 1)),(by first|rfl|(simp;done)|(simp [*];done)),H',⟨by have:=Df.out;have:=Eh.out;have:=BJ.out;have:=Ef.out;have:=Fq.out;omega⟩,⟨by (with_reducible repeat (first|apply aC|apply aG|apply aA));exact xO.out⟩,⟨by repeat (first|(with_reducible first|exact HB.out|apply ay|apply aj|apply av|refine ak ?_ xU.out|refine ak ?_ yc.out)|exact HB.out)⟩⟩
     ·rw [if_neg c8] at H
      exact absurd H (by simp)
    ·rw [if_neg c7] at H
     have c7b0 : decide (xJ < (xI.length : Int)) = false:=decide_eq_false c7
     clear c7
     obtain rfl:=Option.some.inj H
     have H9 : wr.cell? ⟨xQ,0,none⟩ = some (.int .u64 xS):=(au xO.out 0).trans rfl
     have Ia : wr.cell? ⟨xQ,1,none⟩ = some (.slice zM xI.length yh):=(au xO.out 1).trans rfl
     have Ib:=aH xO.out 0
     have Ic:=aH xO.out 1
     go_wp2
     repeat (go_quiet (fail);try go_wp2)
     go_ret
     exact ⟨by first|rfl|(simp [aZ,bf] <;> rfl)|(simp [*,aZ,bf] <;> rfl),by repeat (first|(with_reducible first|exact HB.out|apply ay|apply aj|apply av|refine ak ?_ xU.out)|exact HB.out)⟩
end Go.Proofs.YtpmbdcljphpcnaaDoor.GC2
