/- Written by this session's own program (wip/gen.py) out of the translation: plain Lean functions of the Go functions, and proofs that the calls come to their answers. No conditions beside those in the statements. -/
import Derived.Test.YtpmbdcljphpcnaaDoorGC2x0
import Derived.Test.YtpmbdcljphpcnaaDoorGC2x9
import Derived.Test.YtpmbdcljphpcnaaDoorGC2x10
namespace Go.Proofs.YtpmbdcljphpcnaaDoor.GC2
open Go.RowKit Go.Proofs.YtpmbdcljphpcnaaDoorW.PrintWords Go.Proofs.YtpmbdcljphpcnaaDoorW.PrintLast Go.Proofs.YtpmbdcljphpcnaaDoorW.PrintMore
attribute [local go_sem] fO fP gI gJ fF fG fQ fT
set_option linter.unusedVariables false
set_option linter.unusedSimpArgs false
mutual
def aI.l0 : Nat → Int → Int → List (S103) → Option (Int)
 | 0,_,_,_=>none
 | k + 1,x3,x200000,zR=>if x3 < (zR.length : Int) then (if 0 ≤ x3 then ((aV.f k ((aG zR x3).f0)).bind fun F9=>(if F9 = true then ((bD.f k ((aG zR x3).f1)).bind fun t203=>(if t203 = true then ((bG.f k ((aG zR x3).f2)).bind fun Cc=>(aI.j1 k x3 (!Cc) x200000 zR ((aG zR x3).f0) ((aG zR x3).f1) ((aG zR x3).f2) ((aG zR x3).f3) ((aG zR x3).f4) ((aG zR x3).f5))) else (aI.j1 k x3 true x200000 zR ((aG zR x3).f0) ((aG zR x3).f1) ((aG zR x3).f2) ((aG zR x3).f3) ((aG zR x3).f4) ((aG zR x3).f5)))) else (aI.j1 k x3 true x200000 zR ((aG zR x3).f0) ((aG zR x3).f1) ((aG zR x3).f2) ((aG zR x3).f3) ((aG zR x3).f4) ((aG zR x3).f5)))) else (none)) else (some 0)
def aI.j1 : Nat → Int → Bool → Int → List (S103) → ByteArray → ByteArray → ByteArray → Int → Int → List (S104) → Option (Int)
 | 0,_,_,_,_,_,_,_,_,_,_=>none
 | k + 1,x3,x38,x200000,zR,Ac,Ae,Af,Ad,Aa,zX=>if x38 = true then (some 13) else (if x3 > 0 then (if 0 ≤ (wrap64 (x3 - 1)) then (if (wrap64 (x3 - 1)) < (zR.length : Int) then (aI.j2 k x3 (!(Op.bytesLess (((aG zR (wrap64 (x3 - 1))).f0).toList) Ac.toList)) x200000 zR Ac Ae Af Ad Aa zX) else (none)) else (none)) else (aI.j2 k x3 false x200000 zR Ac Ae Af Ad Aa zX))
def aI.j2 : Nat → Int → Bool → Int → List (S103) → ByteArray → ByteArray → ByteArray → Int → Int → List (S104) → Option (Int)
 | 0,_,_,_,_,_,_,_,_,_,_=>none
 | k + 1,x3,KL,x200000,zR,Ac,Ae,Af,Ad,Aa,zX=>if KL = true then (some 6) else (if Ad > 2 then (aI.j3 k x3 true x200000 zR Ac Ae Af Ad Aa zX) else (if Aa = 0 then (aI.j3 k x3 true x200000 zR Ac Ae Af Ad Aa zX) else (aI.j3 k x3 (decide (Aa > 3600)) x200000 zR Ac Ae Af Ad Aa zX)))
def aI.j3 : Nat → Int → Bool → Int → List (S103) → ByteArray → ByteArray → ByteArray → Int → Int → List (S104) → Option (Int)
 | 0,_,_,_,_,_,_,_,_,_,_=>none
 | k + 1,x3,KM,x200000,zR,Ac,Ae,Af,Ad,Aa,zX=>if KM = true then (some 7) else (if (zX.length : Int) = 0 then (some 16) else (if (zX.length : Int) > 16 then (some 18) else (aI.l1 k x3 0 x200000 zR Ac Ae Af Ad Aa zX)))
def aI.l1 : Nat → Int → Int → Int → List (S103) → ByteArray → ByteArray → ByteArray → Int → Int → List (S104) → Option (Int)
 | 0,_,_,_,_,_,_,_,_,_,_=>none
 | k + 1,x3,x5,x200000,zR,Ac,Ae,Af,Ad,Aa,zX=>if x5 < (zX.length : Int) then (if 0 ≤ x5 then ((bG.f k ((d9 zX x5).f0)).bind fun Ga=>(if Ga = true then (aI.l2 k x3 x5 0 x200000 zR Ac Ae Af Ad Aa zX) else (some 13))) else (none)) else (aI.l0 k (wrap64 (x3 + 1)) x200000 zR)
def aI.l2 : Nat → Int → Int → Int → Int → List (S103) → ByteArray → ByteArray → ByteArray → Int → Int → List (S104) → Option (Int)
 | 0,_,_,_,_,_,_,_,_,_,_,_=>none
 | k + 1,x3,x5,x6,x200000,zR,Ac,Ae,Af,Ad,Aa,zX=>if x6 < x5 then (if 0 ≤ x6 then (if x6 < (zX.length : Int) then (if 0 ≤ x5 then (if x5 < (zX.length : Int) then (if ((d9 zX x6).f0).toList = ((d9 zX x5).f0).toList then (some 8) else (aI.l2 k x3 x5 (wrap64 (x6 + 1)) x200000 zR Ac Ae Af Ad Aa zX)) else (none)) else (none)) else (none)) else (none)) else (if 0 ≤ x5 then (if x5 < (zX.length : Int) then ((bT.f k ((d9 zX x5).f1)).bind fun Gb=>(if Gb = true then (aI.l1 k x3 (wrap64 (x5 + 1)) x200000 zR Ac Ae Af Ad Aa zX) else (some 6))) else (none)) else (none))
end
def aI.f (k : Nat) (zU : Int) (zL : List (S103)) : Option (Int):=if (zL.length : Int) > 1024 then (some 18) else (aI.l0 k 0 zU zL)
theorem aI.dX : ∀ k,(∀ y0 y1 y2,LeO (aI.l0 k y0 y1 y2) (aI.l0 (k + 1) y0 y1 y2)) ∧ (∀ y0 y1 y2 y3 y4 y5 y6 y7 y8 y9,LeO (aI.j1 k y0 y1 y2 y3 y4 y5 y6 y7 y8 y9) (aI.j1 (k + 1) y0 y1 y2 y3 y4 y5 y6 y7 y8 y9)) ∧ (∀ y0 y1 y2 y3 y4 y5 y6 y7 y8 y9,LeO (aI.j2 k y0 y1 y2 y3 y4 y5 y6 y7 y8 y9) (aI.j2 (k + 1) y0 y1 y2 y3 y4 y5 y6 y7 y8 y9)) ∧ (∀ y0 y1 y2 y3 y4 y5 y6 y7 y8 y9,LeO (aI.j3 k y0 y1 y2 y3 y4 y5 y6 y7 y8 y9) (aI.j3 (k + 1) y0 y1 y2 y3 y4 y5 y6 y7 y8 y9)) ∧ (∀ y0 y1 y2 y3 y4 y5 y6 y7 y8 y9,LeO (aI.l1 k y0 y1 y2 y3 y4 y5 y6 y7 y8 y9) (aI.l1 (k + 1) y0 y1 y2 y3 y4 y5 y6 y7 y8 y9)) ∧ (∀ y0 y1 y2 y3 y4 y5 y6 y7 y8 y9 JN,LeO (aI.l2 k y0 y1 y2 y3 y4 y5 y6 y7 y8 y9 JN) (aI.l2 (k + 1) y0 y1 y2 y3 y4 y5 y6 y7 y8 y9 JN))
 | 0=>⟨fun _ _ _ r h=>by simp [aI.l0] at h,fun _ _ _ _ _ _ _ _ _ _ r h=>by simp [aI.j1] at h,fun _ _ _ _ _ _ _ _ _ _ r h=>by simp [aI.j2] at h,fun _ _ _ _ _ _ _ _ _ _ r h=>by simp [aI.j3] at h,fun _ _ _ _ _ _ _ _ _ _ r h=>by simp [aI.l1] at h,fun _ _ _ _ _ _ _ _ _ _ _ r h=>by simp [aI.l2] at h⟩
 | k + 1=>by
  obtain ⟨EH,ih1,ih2,ih3,ih4,ih5⟩:=aI.dX k
  refine ⟨?_,?_,?_,?_,?_,?_⟩
  ·intro y0 y1 y2
   unfold aI.l0
   repeat' first
   | (with_reducible exact EH _ _ _)
   | (with_reducible exact ih1 _ _ _ _ _ _ _ _ _ _)
   | (with_reducible exact ih2 _ _ _ _ _ _ _ _ _ _)
   | (with_reducible exact ih3 _ _ _ _ _ _ _ _ _ _)
   | (with_reducible exact ih4 _ _ _ _ _ _ _ _ _ _)
   | (with_reducible exact ih5 _ _ _ _ _ _ _ _ _ _ _)
   | (with_reducible exact aV.mono _ _)
   | (with_reducible exact bT.mono _ _)
   | (with_reducible exact bG.mono _ _)
   | (with_reducible exact bD.mono _ _)
   | (with_reducible exact LeO.refl _)
   | (with_reducible exact LeO.none _)
   | (with_reducible refine LeO.ite ?_ ?_)
   | (with_reducible refine LeO.bind ?_ (fun _=>?_))
   | exact EH _ _ _
   | exact ih1 _ _ _ _ _ _ _ _ _ _
   | exact ih2 _ _ _ _ _ _ _ _ _ _
   | exact ih3 _ _ _ _ _ _ _ _ _ _
   | exact ih4 _ _ _ _ _ _ _ _ _ _
   | exact ih5 _ _ _ _ _ _ _ _ _ _ _
   | exact aV.mono _ _
   | exact bT.mono _ _
   | exact bG.mono _ _
   | exact bD.mono _ _
   | exact LeO.none _
   | refine LeO.ite ?_ ?_
   | refine LeO.bind ?_ (fun _=>?_)
  ·intro y0 y1 y2 y3 y4 y5 y6 y7 y8 y9
   unfold aI.j1
   repeat' first
   | (with_reducible exact EH _ _ _)
   | (with_reducible exact ih1 _ _ _ _ _ _ _ _ _ _)
   | (with_reducible exact ih2 _ _ _ _ _ _ _ _ _ _)
   | (with_reducible exact ih3 _ _ _ _ _ _ _ _ _ _)
   | (with_reducible exact ih4 _ _ _ _ _ _ _ _ _ _)
   | (with_reducible exact ih5 _ _ _ _ _ _ _ _ _ _ _)
   | (with_reducible exact aV.mono _ _)
   | (with_reducible exact bT.mono _ _)
   | (with_reducible exact bG.mono _ _)
   | (with_reducible exact bD.mono _ _)
   | (with_reducible exact LeO.refl _)
   | (with_reducible exact LeO.none _)
   | (with_reducible refine LeO.ite ?_ ?_)
   | (with_reducible refine LeO.bind ?_ (fun _=>?_))
   | exact EH _ _ _
   | exact ih1 _ _ _ _ _ _ _ _ _ _
   | exact ih2 _ _ _ _ _ _ _ _ _ _
   | exact ih3 _ _ _ _ _ _ _ _ _ _
   | exact ih4 _ _ _ _ _ _ _ _ _ _
   | exact ih5 _ _ _ _ _ _ _ _ _ _ _
   | exact aV.mono _ _
   | exact bT.mono _ _
   | exact bG.mono _ _
   | exact bD.mono _ _
   | exact LeO.none _
   | refine LeO.ite ?_ ?_
   | refine LeO.bind ?_ (fun _=>?_)
  ·intro y0 y1 y2 y3 y4 y5 y6 y7 y8 y9
   unfold aI.j2
   repeat' first
   | (with_reducible exact EH _ _ _)
   | (with_reducible exact ih1 _ _ _ _ _ _ _ _ _ _)
   | (with_reducible exact ih2 _ _ _ _ _ _ _ _ _ _)
   | (with_reducible exact ih3 _ _ _ _ _ _ _ _ _ _)
   | (with_reducible exact ih4 _ _ _ _ _ _ _ _ _ _)
   | (with_reducible exact ih5 _ _ _ _ _ _ _ _ _ _ _)
   | (with_reducible exact aV.mono _ _)
   | (with_reducible exact bT.mono _ _)
   | (with_reducible exact bG.mono _ _)
   | (with_reducible exact bD.mono _ _)
   | (with_reducible exact LeO.refl _)
   | (with_reducible exact LeO.none _)
   | (with_reducible refine LeO.ite ?_ ?_)
   | (with_reducible refine LeO.bind ?_ (fun _=>?_))
   | exact EH _ _ _
   | exact ih1 _ _ _ _ _ _ _ _ _ _
   | exact ih2 _ _ _ _ _ _ _ _ _ _
   | exact ih3 _ _ _ _ _ _ _ _ _ _
   | exact ih4 _ _ _ _ _ _ _ _ _ _
   | exact ih5 _ _ _ _ _ _ _ _ _ _ _
   | exact aV.mono _ _
   | exact bT.mono _ _
   | exact bG.mono _ _
   | exact bD.mono _ _
   | exact LeO.none _
   | refine LeO.ite ?_ ?_
   | refine LeO.bind ?_ (fun _=>?_)
  ·intro y0 y1 y2 y3 y4 y5 y6 y7 y8 y9
   unfold aI.j3
   repeat' first
   | (with_reducible exact EH _ _ _)
   | (with_reducible exact ih1 _ _ _ _ _ _ _ _ _ _)
   | (with_reducible exact ih2 _ _ _ _ _ _ _ _ _ _)
   | (with_reducible exact ih3 _ _ _ _ _ _ _ _ _ _)
   | (with_reducible exact ih4 _ _ _ _ _ _ _ _ _ _)
   | (with_reducible exact ih5 _ _ _ _ _ _ _ _ _ _ _)
   | (with_reducible exact aV.mono _ _)
   | (with_reducible exact bT.mono _ _)
   | (with_reducible exact bG.mono _ _)
   | (with_reducible exact bD.mono _ _)
   | (with_reducible exact LeO.refl _)
   | (with_reducible exact LeO.none _)
   | (with_reducible refine LeO.ite ?_ ?_)
   | (with_reducible refine LeO.bind ?_ (fun _=>?_))
   | exact EH _ _ _
   | exact ih1 _ _ _ _ _ _ _ _ _ _
   | exact ih2 _ _ _ _ _ _ _ _ _ _
   | exact ih3 _ _ _ _ _ _ _ _ _ _
   | exact ih4 _ _ _ _ _ _ _ _ _ _
   | exact ih5 _ _ _ _ _ _ _ _ _ _ _
   | exact aV.mono _ _
   | exact bT.mono _ _
   | exact bG.mono _ _
   | exact bD.mono _ _
   | exact LeO.none _
   | refine LeO.ite ?_ ?_
   | refine LeO.bind ?_ (fun _=>?_)
  ·intro y0 y1 y2 y3 y4 y5 y6 y7 y8 y9
   unfold aI.l1
   repeat' first
   | (with_reducible exact EH _ _ _)
   | (with_reducible exact ih1 _ _ _ _ _ _ _ _ _ _)
   | (with_reducible exact ih2 _ _ _ _ _ _ _ _ _ _)
   | (with_reducible exact ih3 _ _ _ _ _ _ _ _ _ _)
   | (with_reducible exact ih4 _ _ _ _ _ _ _ _ _ _)
   | (with_reducible exact ih5 _ _ _ _ _ _ _ _ _ _ _)
   | (with_reducible exact aV.mono _ _)
   | (with_reducible exact bT.mono _ _)
   | (with_reducible exact bG.mono _ _)
   | (with_reducible exact bD.mono _ _)
   | (with_reducible exact LeO.refl _)
   | (with_reducible exact LeO.none _)
   | (with_reducible refine LeO.ite ?_ ?_)
   | (with_reducible refine LeO.bind ?_ (fun _=>?_))
   | exact EH _ _ _
   | exact ih1 _ _ _ _ _ _ _ _ _ _
   | exact ih2 _ _ _ _ _ _ _ _ _ _
   | exact ih3 _ _ _ _ _ _ _ _ _ _
   | exact ih4 _ _ _ _ _ _ _ _ _ _
   | exact ih5 _ _ _ _ _ _ _ _ _ _ _
   | exact aV.mono _ _
   | exact bT.mono _ _
   | exact bG.mono _ _
   | exact bD.mono _ _
   | exact LeO.none _
   | refine LeO.ite ?_ ?_
   | refine LeO.bind ?_ (fun _=>?_)
  ·intro y0 y1 y2 y3 y4 y5 y6 y7 y8 y9 JN
   unfold aI.l2
   repeat' first
   | (with_reducible exact EH _ _ _)
   | (with_reducible exact ih1 _ _ _ _ _ _ _ _ _ _)
   | (with_reducible exact ih2 _ _ _ _ _ _ _ _ _ _)
   | (with_reducible exact ih3 _ _ _ _ _ _ _ _ _ _)
   | (with_reducible exact ih4 _ _ _ _ _ _ _ _ _ _)
   | (with_reducible exact ih5 _ _ _ _ _ _ _ _ _ _ _)
   | (with_reducible exact aV.mono _ _)
   | (with_reducible exact bT.mono _ _)
   | (with_reducible exact bG.mono _ _)
   | (with_reducible exact bD.mono _ _)
   | (with_reducible exact LeO.refl _)
   | (with_reducible exact LeO.none _)
   | (with_reducible refine LeO.ite ?_ ?_)
   | (with_reducible refine LeO.bind ?_ (fun _=>?_))
   | exact EH _ _ _
   | exact ih1 _ _ _ _ _ _ _ _ _ _
   | exact ih2 _ _ _ _ _ _ _ _ _ _
   | exact ih3 _ _ _ _ _ _ _ _ _ _
   | exact ih4 _ _ _ _ _ _ _ _ _ _
   | exact ih5 _ _ _ _ _ _ _ _ _ _ _
   | exact aV.mono _ _
   | exact bT.mono _ _
   | exact bG.mono _ _
   | exact bD.mono _ _
   | exact LeO.none _
   | refine LeO.ite ?_ ?_
   | refine LeO.bind ?_ (fun _=>?_)
theorem aI.mono : ∀ a0 a1 k,LeO (aI.f k a0 a1) (aI.f (k + 1) a0 a1):=by
 intro a0 a1 k
 obtain ⟨EH,ih1,ih2,ih3,ih4,ih5⟩:=aI.dX k
 unfold aI.f
 repeat' first
   | (with_reducible exact EH _ _ _)
   | (with_reducible exact ih1 _ _ _ _ _ _ _ _ _ _)
   | (with_reducible exact ih2 _ _ _ _ _ _ _ _ _ _)
   | (with_reducible exact ih3 _ _ _ _ _ _ _ _ _ _)
   | (with_reducible exact ih4 _ _ _ _ _ _ _ _ _ _)
   | (with_reducible exact ih5 _ _ _ _ _ _ _ _ _ _ _)
   | (with_reducible exact aV.mono _ _)
   | (with_reducible exact bT.mono _ _)
   | (with_reducible exact bG.mono _ _)
   | (with_reducible exact bD.mono _ _)
   | (with_reducible exact LeO.refl _)
   | (with_reducible exact LeO.none _)
   | (with_reducible refine LeO.ite ?_ ?_)
   | (with_reducible refine LeO.bind ?_ (fun _=>?_))
   | exact EH _ _ _
   | exact ih1 _ _ _ _ _ _ _ _ _ _
   | exact ih2 _ _ _ _ _ _ _ _ _ _
   | exact ih3 _ _ _ _ _ _ _ _ _ _
   | exact ih4 _ _ _ _ _ _ _ _ _ _
   | exact ih5 _ _ _ _ _ _ _ _ _ _ _
   | exact aV.mono _ _
   | exact bT.mono _ _
   | exact bG.mono _ _
   | exact bD.mono _ _
   | exact LeO.none _
   | refine LeO.ite ?_ ?_
   | refine LeO.bind ?_ (fun _=>?_)
set_option maxHeartbeats 8000000 in
set_option maxRecDepth 100000 in
theorem aI.calls (k : Nat) (zU : Int) (BO : Option Addr) (Ab : Nat) (zL : List (S103)) (r : Int) (w : World) (Gv : Kd.C iC w BO zL.length zL) (Gw : zL.length ≤ Ab) (h : aI.f k zU zL = some r) :
  Calls Tryd.prog 25 #[.agg #[.int .u64 zU,.slice BO zL.length Ab]] w fun e w'=>e = .returned (.int .i64 r) ∧ Below w.heap.size w w':=by
 have KN:=Tryd.underlying53
 have JX:=Tryd.underlying103
 have Gx:=Aside0.mk Gv
 have JY:=Aside0.mk Gw
 clear Gv Gw
 have HB:=Aside0.mk (Below.refl w.heap.size w)
 have H : (if (zL.length : Int) > 1024 then (some 18) else (aI.l0 k 0 zU zL)) = some r:=h
 clear h
 by_cases c2 : (zL.length : Int) > 1024
 ·rw [if_pos c2] at H
  have c2b0 : decide (1024 < (zL.length : Int)) = true:=decide_eq_true c2
  have c2b1 : decide (1024 < zL.length) = true:=decide_eq_true (by omega)
  clear c2
  obtain rfl:=Option.some.inj H
  go_enter Tryd.func25,Tryd.ntmps25
  go_wp2_with (first|((with_reducible refine dw (N:=1) rfl ?_);refine cB ?hg (N:=1) ?hd (cs:=#[.int .u64 zU,.slice BO zL.length Ab]) (t:=53) ?hr ?_;(case hd=>rfl);(case hg=>rfl);(case hr=>first|(go_simp;done)|(go_simp;rfl));intro zS hg w3 hbox hb;have Ai:=Aside0.mk (aU (by repeat (first|(with_reducible first|exact HB.out|apply aD|apply ak|apply aC)|exact HB.out)) hb);have Aj:=Aside0.mk (hbox);have Ak:=Aside0.mk ((by rw [hg];exact (aW (by repeat (first|(with_reducible first|exact HB.out|apply aD|apply ak|apply aC)|exact HB.out))) : w.heap.size ≤ zS));have Di:=Aside0.mk ((by rw [hg];exact (aW (by repeat (first|(with_reducible first|exact HB.out|apply aD|apply ak|apply aC)|exact HB.out))) : w.heap.size ≤ zS));clear HB;have HB:=Ai;have zQ:=Aj;have EB:=Ak;have zV:=Di;clear Ai Aj Ak Di;clear hb hbox hg;have BP : w3.cell? ⟨zS,0,none⟩ = some (.int .u64 zU):=(ay zQ.out 0).trans rfl;have BQ : w3.cell? ⟨zS,1,none⟩ = some (.slice BO zL.length Ab):=(ay zQ.out 1).trans rfl;have BR:=av zQ.out 0;have BS:=av zQ.out 1))
  repeat (go_quiet (first|((with_reducible refine dw (N:=1) rfl ?_);refine cB ?hg (N:=1) ?hd (cs:=#[.int .u64 zU,.slice BO zL.length Ab]) (t:=53) ?hr ?_;(case hd=>rfl);(case hg=>rfl);(case hr=>first|(go_simp;done)|(go_simp;rfl));intro zS hg w3 hbox hb;have Ai:=Aside0.mk (aU (by repeat (first|(with_reducible first|exact HB.out|apply aD|apply ak|apply aC)|exact HB.out)) hb);have Aj:=Aside0.mk (hbox);have Ak:=Aside0.mk ((by rw [hg];exact (aW (by repeat (first|(with_reducible first|exact HB.out|apply aD|apply ak|apply aC)|exact HB.out))) : w.heap.size ≤ zS));have Di:=Aside0.mk ((by rw [hg];exact (aW (by repeat (first|(with_reducible first|exact HB.out|apply aD|apply ak|apply aC)|exact HB.out))) : w.heap.size ≤ zS));clear HB;have HB:=Ai;have zQ:=Aj;have EB:=Ak;have zV:=Di;clear Ai Aj Ak Di;clear hb hbox hg;have BP : w3.cell? ⟨zS,0,none⟩ = some (.int .u64 zU):=(ay zQ.out 0).trans rfl;have BQ : w3.cell? ⟨zS,1,none⟩ = some (.slice BO zL.length Ab):=(ay zQ.out 1).trans rfl;have BR:=av zQ.out 0;have BS:=av zQ.out 1));try go_wp2_with (first|((with_reducible refine dw (N:=1) rfl ?_);refine cB ?hg (N:=1) ?hd (cs:=#[.int .u64 zU,.slice BO zL.length Ab]) (t:=53) ?hr ?_;(case hd=>rfl);(case hg=>rfl);(case hr=>first|(go_simp;done)|(go_simp;rfl));intro zS hg w3 hbox hb;have Ai:=Aside0.mk (aU (by repeat (first|(with_reducible first|exact HB.out|apply aD|apply ak|apply aC)|exact HB.out)) hb);have Aj:=Aside0.mk (hbox);have Ak:=Aside0.mk ((by rw [hg];exact (aW (by repeat (first|(with_reducible first|exact HB.out|apply aD|apply ak|apply aC)|exact HB.out))) : w.heap.size ≤ zS));have Di:=Aside0.mk ((by rw [hg];exact (aW (by repeat (first|(with_reducible first|exact HB.out|apply aD|apply ak|apply aC)|exact HB.out))) : w.heap.size ≤ zS));clear HB;have HB:=Ai;have zQ:=Aj;have EB:=Ak;have zV:=Di;clear Ai Aj Ak Di;clear hb hbox hg;have BP : w3.cell? ⟨zS,0,none⟩ = some (.int .u64 zU):=(ay zQ.out 0).trans rfl;have BQ : w3.cell? ⟨zS,1,none⟩ = some (.slice BO zL.length Ab):=(ay zQ.out 1).trans rfl;have BR:=av zQ.out 0;have BS:=av zQ.out 1)))
  go_ret
  exact ⟨by first|rfl|(simp [aY,aZ] <;> rfl)|(simp [*,aY,aZ] <;> rfl),by repeat (first|(with_reducible first|exact HB.out|apply aD|apply ak|apply aC|refine aA ?_ zV.out)|exact HB.out)⟩
 ·rw [if_neg c2] at H
  have c2b0 : decide (1024 < (zL.length : Int)) = false:=decide_eq_false c2
  have c2b1 : decide (1024 < zL.length) = false:=decide_eq_false (by omega)
  clear c2
  have H':=Aside0.mk H
  clear H
  go_enter Tryd.func25,Tryd.ntmps25
  go_wp2_with (first|((with_reducible refine dw (N:=1) rfl ?_);refine cB ?hg (N:=1) ?hd (cs:=#[.int .u64 zU,.slice BO zL.length Ab]) (t:=53) ?hr ?_;(case hd=>rfl);(case hg=>rfl);(case hr=>first|(go_simp;done)|(go_simp;rfl));intro zS hg w5 hbox hb;have Ai:=Aside0.mk (aU (by repeat (first|(with_reducible first|exact HB.out|apply aD|apply ak|apply aC)|exact HB.out)) hb);have Aj:=Aside0.mk (hbox);have Ak:=Aside0.mk ((by rw [hg];exact (aW (by repeat (first|(with_reducible first|exact HB.out|apply aD|apply ak|apply aC)|exact HB.out))) : w.heap.size ≤ zS));have Di:=Aside0.mk ((by rw [hg];exact (aW (by repeat (first|(with_reducible first|exact HB.out|apply aD|apply ak|apply aC)|exact HB.out))) : w.heap.size ≤ zS));clear HB;have HB:=Ai;have zQ:=Aj;have EB:=Ak;have zV:=Di;clear Ai Aj Ak Di;clear hb hbox hg;have BU : w5.cell? ⟨zS,0,none⟩ = some (.int .u64 zU):=(ay zQ.out 0).trans rfl;have BZ : w5.cell? ⟨zS,1,none⟩ = some (.slice BO zL.length Ab):=(ay zQ.out 1).trans rfl;have Ca:=av zQ.out 0;have Cb:=av zQ.out 1))
  repeat (go_quiet (first|((with_reducible refine dw (N:=1) rfl ?_);refine cB ?hg (N:=1) ?hd (cs:=#[.int .u64 zU,.slice BO zL.length Ab]) (t:=53) ?hr ?_;(case hd=>rfl);(case hg=>rfl);(case hr=>first|(go_simp;done)|(go_simp;rfl));intro zS hg w5 hbox hb;have Ai:=Aside0.mk (aU (by repeat (first|(with_reducible first|exact HB.out|apply aD|apply ak|apply aC)|exact HB.out)) hb);have Aj:=Aside0.mk (hbox);have Ak:=Aside0.mk ((by rw [hg];exact (aW (by repeat (first|(with_reducible first|exact HB.out|apply aD|apply ak|apply aC)|exact HB.out))) : w.heap.size ≤ zS));have Di:=Aside0.mk ((by rw [hg];exact (aW (by repeat (first|(with_reducible first|exact HB.out|apply aD|apply ak|apply aC)|exact HB.out))) : w.heap.size ≤ zS));clear HB;have HB:=Ai;have zQ:=Aj;have EB:=Ak;have zV:=Di;clear Ai Aj Ak Di;clear hb hbox hg;have BU : w5.cell? ⟨zS,0,none⟩ = some (.int .u64 zU):=(ay zQ.out 0).trans rfl;have BZ : w5.cell? ⟨zS,1,none⟩ = some (.slice BO zL.length Ab):=(ay zQ.out 1).trans rfl;have Ca:=av zQ.out 0;have Cb:=av zQ.out 1));try go_wp2_with (first|((with_reducible refine dw (N:=1) rfl ?_);refine cB ?hg (N:=1) ?hd (cs:=#[.int .u64 zU,.slice BO zL.length Ab]) (t:=53) ?hr ?_;(case hd=>rfl);(case hg=>rfl);(case hr=>first|(go_simp;done)|(go_simp;rfl));intro zS hg w5 hbox hb;have Ai:=Aside0.mk (aU (by repeat (first|(with_reducible first|exact HB.out|apply aD|apply ak|apply aC)|exact HB.out)) hb);have Aj:=Aside0.mk (hbox);have Ak:=Aside0.mk ((by rw [hg];exact (aW (by repeat (first|(with_reducible first|exact HB.out|apply aD|apply ak|apply aC)|exact HB.out))) : w.heap.size ≤ zS));have Di:=Aside0.mk ((by rw [hg];exact (aW (by repeat (first|(with_reducible first|exact HB.out|apply aD|apply ak|apply aC)|exact HB.out))) : w.heap.size ≤ zS));clear HB;have HB:=Ai;have zQ:=Aj;have EB:=Ak;have zV:=Di;clear Ai Aj Ak Di;clear hb hbox hg;have BU : w5.cell? ⟨zS,0,none⟩ = some (.int .u64 zU):=(ay zQ.out 0).trans rfl;have BZ : w5.cell? ⟨zS,1,none⟩ = some (.slice BO zL.length Ab):=(ay zQ.out 1).trans rfl;have Ca:=av zQ.out 0;have Cb:=av zQ.out 1)))
  go_loopg [3] k (fun kq v3 w'=>∃ (zM : Int),v3 = .int .i64 zM ∧ Aside0 (aI.l0 kq zM zU zL = some r) ∧ Aside0 (kq ≤ k) ∧ Aside0 (w'.heap[zS]? = some (.cells #[.int .u64 zU,(.slice BO zL.length Ab)] 53 (0,0))) ∧ Aside0 (Below w.heap.size w w'))
  case atStart=>exact ⟨(0),(by first|rfl|(simp;done)|(simp [*];done)),H',⟨Nat.le_refl _⟩,⟨by (with_reducible repeat (first|apply aj|apply au|apply ah));exact zQ.out⟩,⟨by repeat (first|(with_reducible first|exact HB.out|apply aD|apply ak|apply aC|refine aA ?_ zV.out)|exact HB.out)⟩⟩
  case round =>
   clear H'
   try clear c2
   try clear c2b0
   try clear c2b1
   try clear p2
   try clear BP
   try clear BQ
   try clear BU
   try clear BZ
   try clear BR
   try clear BS
   try clear Ca
   try clear Cb
   obtain ⟨zM,rfl,HA,ER,zQ,HB⟩:=hrel
   cases gk with
   | zero=>exact absurd HA.out (by simp [aI.l0])
   | succ k1 =>
    have H:=HA.out
    clear HA
    simp only [aI.l0] at H
    by_cases c7 : zM < (zL.length : Int)
    ·rw [if_pos c7] at H
     have c7b0 : decide (zM < (zL.length : Int)) = true:=decide_eq_true c7
     clear c7
     by_cases c8 : 0 ≤ zM
     ·rw [if_pos c8] at H
      have c8b0 : decide (0 ≤ zM) = true:=decide_eq_true c8
      clear c8
      have JO:=Aside0.mk H
      clear H
      have Ce : wr.cell? ⟨zS,0,none⟩ = some (.int .u64 zU):=(ay zQ.out 0).trans rfl
      have Cg : wr.cell? ⟨zS,1,none⟩ = some (.slice BO zL.length Ab):=(ay zQ.out 1).trans rfl
      have Ch:=av zQ.out 0
      have Ci:=av zQ.out 1
      have EC : 0 ≤ (zM : Int):=of_decide_eq_true (by first|(with_reducible assumption)|assumption)
      have ED : zM < (zL.length : Int):=of_decide_eq_true (by first|(with_reducible assumption)|assumption)
      obtain ⟨Ag,zZ,zY,JQ,Al,Am,Ap,Aq,Ar,Av,ES,ET⟩:=mG Gx.out zM EC ED
      cases JQ
      replace Al:=(HB.out.cell (World.block_lt_of_cell? w _ Al)).trans Al
      replace Am:=(HB.out.cell (World.block_lt_of_cell? w _ Am)).trans Am
      replace Ap:=(HB.out.cell (World.block_lt_of_cell? w _ Ap)).trans Ap
      replace Aq:=(HB.out.cell (World.block_lt_of_cell? w _ Aq)).trans Aq
      replace Ar:=(HB.out.cell (World.block_lt_of_cell? w _ Ar)).trans Ar
      replace Av:=(HB.out.cell (World.block_lt_of_cell? w _ Av)).trans Av
      have Aw:=Aside0.mk ET
      have Hq:=Aside0.mk ES
      clear ET ES
      replace EC:=eq_true EC
      replace ED:=eq_true ED
      go_upto_region 7 with (first|((with_reducible refine dw (N:=4) rfl ?_);refine cB ?hg (N:=4) ?hd (cs:=#[.string (⟨#[]⟩ : ByteArray),.string (⟨#[]⟩ : ByteArray),.string (⟨#[]⟩ : ByteArray),.int .u8 0,.int .u16 0,.slice none 0 0]) (t:=103) ?hr ?_;(case hd=>rfl);(case hg=>rfl);(case hr=>first|(go_simp;done)|(go_simp;rfl));intro zO hg BM hbox hb;have Ai:=Aside0.mk (aQ (g:=zS) (o:=.cells #[.int .u64 zU,.slice (some Ag) zL.length Ab] 53 (0,0)) (bk_ zQ.out) hb);have Aj:=Aside0.mk (aU (by repeat (first|(with_reducible first|exact HB.out|apply aD|apply ak|apply aC|refine aA ?_ zV.out)|exact HB.out)) hb);have Ak:=Aside0.mk (hbox);have Di:=Aside0.mk ((by rw [hg];exact (aW (by repeat (first|(with_reducible first|exact HB.out|apply aD|apply ak|apply aC|refine aA ?_ zV.out)|exact HB.out))) : w.heap.size ≤ zO));have Gy:=Aside0.mk ((by rw [hg];exact (aW (by repeat (first|(with_reducible first|exact HB.out|apply aD|apply ak|apply aC|refine aA ?_ zV.out)|exact HB.out))) : w.heap.size ≤ zO));have Gz:=Aside0.mk ((by rw [hg];exact Nat.ne_of_lt (bV (g:=zS) (o:=.cells #[.int .u64 zU,.slice (some Ag) zL.length Ab] 53 (0,0)) (bk_ zQ.out)) : zS ≠ zO));have GA:=Aside0.mk ((by rw [hg];exact Nat.ne_of_gt (bV (g:=zS) (o:=.cells #[.int .u64 zU,.slice (some Ag) zL.length Ab] 53 (0,0)) (bk_ zQ.out)) : zO ≠ zS));clear zQ;clear HB;have zQ:=Ai;have HB:=Aj;have zN:=Ak;have GD:=Di;have z8:=Gy;have zP:=Gz;have zT:=GA;clear Ai Aj Ak Di Gy Gz GA;clear hb hbox hg;have GH:=zT.out;have GI:=zP.out;have AA : BM.cell? ⟨zO,0,none⟩ = some (.string (⟨#[]⟩ : ByteArray)):=(ay zN.out 0).trans rfl;have AB : BM.cell? ⟨zO,1,none⟩ = some (.string (⟨#[]⟩ : ByteArray)):=(ay zN.out 1).trans rfl;have AJ : BM.cell? ⟨zO,2,none⟩ = some (.string (⟨#[]⟩ : ByteArray)):=(ay zN.out 2).trans rfl;have AL : BM.cell? ⟨zO,3,none⟩ = some (.int .u8 0):=(ay zN.out 3).trans rfl;have AO : BM.cell? ⟨zO,4,none⟩ = some (.int .u16 0):=(ay zN.out 4).trans rfl;have AP : BM.cell? ⟨zO,5,none⟩ = some (.slice none 0 0):=(ay zN.out 5).trans rfl;have AQ:=av zN.out 0;have AU:=av zN.out 1;have AV:=av zN.out 2;have AX:=av zN.out 3;have AY:=av zN.out 4;have AZ:=av zN.out 5))
      repeat (go_quiet (first|((with_reducible refine dw (N:=4) rfl ?_);refine cB ?hg (N:=4) ?hd (cs:=#[.string (⟨#[]⟩ : ByteArray),.string (⟨#[]⟩ : ByteArray),.string (⟨#[]⟩ : ByteArray),.int .u8 0,.int .u16 0,.slice none 0 0]) (t:=103) ?hr ?_;(case hd=>rfl);(case hg=>rfl);(case hr=>first|(go_simp;done)|(go_simp;rfl));intro zO hg BM hbox hb;have Ai:=Aside0.mk (aQ (g:=zS) (o:=.cells #[.int .u64 zU,.slice (some Ag) zL.length Ab] 53 (0,0)) (bk_ zQ.out) hb);have Aj:=Aside0.mk (aU (by repeat (first|(with_reducible first|exact HB.out|apply aD|apply ak|apply aC|refine aA ?_ zV.out)|exact HB.out)) hb);have Ak:=Aside0.mk (hbox);have Di:=Aside0.mk ((by rw [hg];exact (aW (by repeat (first|(with_reducible first|exact HB.out|apply aD|apply ak|apply aC|refine aA ?_ zV.out)|exact HB.out))) : w.heap.size ≤ zO));have Gy:=Aside0.mk ((by rw [hg];exact (aW (by repeat (first|(with_reducible first|exact HB.out|apply aD|apply ak|apply aC|refine aA ?_ zV.out)|exact HB.out))) : w.heap.size ≤ zO));have Gz:=Aside0.mk ((by rw [hg];exact Nat.ne_of_lt (bV (g:=zS) (o:=.cells #[.int .u64 zU,.slice (some Ag) zL.length Ab] 53 (0,0)) (bk_ zQ.out)) : zS ≠ zO));have GA:=Aside0.mk ((by rw [hg];exact Nat.ne_of_gt (bV (g:=zS) (o:=.cells #[.int .u64 zU,.slice (some Ag) zL.length Ab] 53 (0,0)) (bk_ zQ.out)) : zO ≠ zS));clear zQ;clear HB;have zQ:=Ai;have HB:=Aj;have zN:=Ak;have GD:=Di;have z8:=Gy;have zP:=Gz;have zT:=GA;clear Ai Aj Ak Di Gy Gz GA;clear hb hbox hg;have GH:=zT.out;have GI:=zP.out;have AA : BM.cell? ⟨zO,0,none⟩ = some (.string (⟨#[]⟩ : ByteArray)):=(ay zN.out 0).trans rfl;have AB : BM.cell? ⟨zO,1,none⟩ = some (.string (⟨#[]⟩ : ByteArray)):=(ay zN.out 1).trans rfl;have AJ : BM.cell? ⟨zO,2,none⟩ = some (.string (⟨#[]⟩ : ByteArray)):=(ay zN.out 2).trans rfl;have AL : BM.cell? ⟨zO,3,none⟩ = some (.int .u8 0):=(ay zN.out 3).trans rfl;have AO : BM.cell? ⟨zO,4,none⟩ = some (.int .u16 0):=(ay zN.out 4).trans rfl;have AP : BM.cell? ⟨zO,5,none⟩ = some (.slice none 0 0):=(ay zN.out 5).trans rfl;have AQ:=av zN.out 0;have AU:=av zN.out 1;have AV:=av zN.out 2;have AX:=av zN.out 3;have AY:=av zN.out 4;have AZ:=av zN.out 5));go_upto_region 7 with (first|((with_reducible refine dw (N:=4) rfl ?_);refine cB ?hg (N:=4) ?hd (cs:=#[.string (⟨#[]⟩ : ByteArray),.string (⟨#[]⟩ : ByteArray),.string (⟨#[]⟩ : ByteArray),.int .u8 0,.int .u16 0,.slice none 0 0]) (t:=103) ?hr ?_;(case hd=>rfl);(case hg=>rfl);(case hr=>first|(go_simp;done)|(go_simp;rfl));intro zO hg BM hbox hb;have Ai:=Aside0.mk (aQ (g:=zS) (o:=.cells #[.int .u64 zU,.slice (some Ag) zL.length Ab] 53 (0,0)) (bk_ zQ.out) hb);have Aj:=Aside0.mk (aU (by repeat (first|(with_reducible first|exact HB.out|apply aD|apply ak|apply aC|refine aA ?_ zV.out)|exact HB.out)) hb);have Ak:=Aside0.mk (hbox);have Di:=Aside0.mk ((by rw [hg];exact (aW (by repeat (first|(with_reducible first|exact HB.out|apply aD|apply ak|apply aC|refine aA ?_ zV.out)|exact HB.out))) : w.heap.size ≤ zO));have Gy:=Aside0.mk ((by rw [hg];exact (aW (by repeat (first|(with_reducible first|exact HB.out|apply aD|apply ak|apply aC|refine aA ?_ zV.out)|exact HB.out))) : w.heap.size ≤ zO));have Gz:=Aside0.mk ((by rw [hg];exact Nat.ne_of_lt (bV (g:=zS) (o:=.cells #[.int .u64 zU,.slice (some Ag) zL.length Ab] 53 (0,0)) (bk_ zQ.out)) : zS ≠ zO));have GA:=Aside0.mk ((by rw [hg];exact Nat.ne_of_gt (bV (g:=zS) (o:=.cells #[.int .u64 zU,.slice (some Ag) zL.length Ab] 53 (0,0)) (bk_ zQ.out)) : zO ≠ zS));clear zQ;clear HB;have zQ:=Ai;have HB:=Aj;have zN:=Ak;have GD:=Di;have z8:=Gy;have zP:=Gz;have zT:=GA;clear Ai Aj Ak Di Gy Gz GA;clear hb hbox hg;have GH:=zT.out;have GI:=zP.out;have AA : BM.cell? ⟨zO,0,none⟩ = some (.string (⟨#[]⟩ : ByteArray)):=(ay zN.out 0).trans rfl;have AB : BM.cell? ⟨zO,1,none⟩ = some (.string (⟨#[]⟩ : ByteArray)):=(ay zN.out 1).trans rfl;have AJ : BM.cell? ⟨zO,2,none⟩ = some (.string (⟨#[]⟩ : ByteArray)):=(ay zN.out 2).trans rfl;have AL : BM.cell? ⟨zO,3,none⟩ = some (.int .u8 0):=(ay zN.out 3).trans rfl;have AO : BM.cell? ⟨zO,4,none⟩ = some (.int .u16 0):=(ay zN.out 4).trans rfl;have AP : BM.cell? ⟨zO,5,none⟩ = some (.slice none 0 0):=(ay zN.out 5).trans rfl;have AQ:=av zN.out 0;have AU:=av zN.out 1;have AV:=av zN.out 2;have AX:=av zN.out 3;have AY:=av zN.out 4;have AZ:=av zN.out 5)))
      (try simp only [Act.put,List.setIfInBounds_toArray,List.set_cons_zero,List.set_cons_succ])
      go_cut [38] (fun v38 wc=>∃ (kq : Nat) (EU : Bool),v38 = .bool EU ∧ Aside0 (aI.j1 kq zM EU zU zL ((aG zL zM).f0) ((aG zL zM).f1) ((aG zL zM).f2) ((aG zL zM).f3) ((aG zL zM).f4) ((aG zL zM).f5) = some r) ∧ Aside0 (kq ≤ k1) ∧ Aside0 (wc.heap[zS]? = some (.cells #[.int .u64 zU,(.slice (some Ag) zL.length Ab)] 53 (0,0))) ∧ Aside0 (wc.heap[zO]? = some (.cells #[.string ((aG zL zM).f0),.string ((aG zL zM).f1),.string ((aG zL zM).f2),.int .u8 ((aG zL zM).f3),.int .u16 ((aG zL zM).f4),(.slice zZ ((aG zL zM).f5).length zY)] 103 (0,0))) ∧ Aside0 (Below w.heap.size w wc))
      case first =>
       have H:=JO.out
       clear JO
       replace H:=Option.bind_eq_some_iff.mp H
       obtain ⟨F9,G8,H⟩:=H
       replace H : (if F9 = true then ((bD.f k1 ((aG zL zM).f1)).bind fun t203=>(if t203 = true then ((bG.f k1 ((aG zL zM).f2)).bind fun Cc=>(aI.j1 k1 zM (!Cc) zU zL ((aG zL zM).f0) ((aG zL zM).f1) ((aG zL zM).f2) ((aG zL zM).f3) ((aG zL zM).f4) ((aG zL zM).f5))) else (aI.j1 k1 zM true zU zL ((aG zL zM).f0) ((aG zL zM).f1) ((aG zL zM).f2) ((aG zL zM).f3) ((aG zL zM).f4) ((aG zL zM).f5)))) else (aI.j1 k1 zM true zU zL ((aG zL zM).f0) ((aG zL zM).f1) ((aG zL zM).f2) ((aG zL zM).f3) ((aG zL zM).f4) ((aG zL zM).f5))) = some r:=H
       have Gc:=Aside0.mk G8
       clear G8
       by_cases c15 : F9 = true
       ·subst c15
        have H1 : ((bD.f k1 ((aG zL zM).f1)).bind fun t203=>(if t203 = true then ((bG.f k1 ((aG zL zM).f2)).bind fun Cc=>(aI.j1 k1 zM (!Cc) zU zL ((aG zL zM).f0) ((aG zL zM).f1) ((aG zL zM).f2) ((aG zL zM).f3) ((aG zL zM).f4) ((aG zL zM).f5))) else (aI.j1 k1 zM true zU zL ((aG zL zM).f0) ((aG zL zM).f1) ((aG zL zM).f2) ((aG zL zM).f3) ((aG zL zM).f4) ((aG zL zM).f5)))) = some r:=by rw [if_pos rfl] at H;exact H
        clear H
        have H:=H1
        clear H1
        replace H:=Option.bind_eq_some_iff.mp H
        obtain ⟨t203,G9,H⟩:=H
        replace H : (if t203 = true then ((bG.f k1 ((aG zL zM).f2)).bind fun Cc=>(aI.j1 k1 zM (!Cc) zU zL ((aG zL zM).f0) ((aG zL zM).f1) ((aG zL zM).f2) ((aG zL zM).f3) ((aG zL zM).f4) ((aG zL zM).f5))) else (aI.j1 k1 zM true zU zL ((aG zL zM).f0) ((aG zL zM).f1) ((aG zL zM).f2) ((aG zL zM).f3) ((aG zL zM).f4) ((aG zL zM).f5))) = some r:=H
        have GX:=Aside0.mk G9
        clear G9
        by_cases c17 : t203 = true
        ·subst c17
         have H1 : ((bG.f k1 ((aG zL zM).f2)).bind fun Cc=>(aI.j1 k1 zM (!Cc) zU zL ((aG zL zM).f0) ((aG zL zM).f1) ((aG zL zM).f2) ((aG zL zM).f3) ((aG zL zM).f4) ((aG zL zM).f5))) = some r:=by rw [if_pos rfl] at H;exact H
         clear H
         have H:=H1
         clear H1
         replace H:=Option.bind_eq_some_iff.mp H
         obtain ⟨Cc,He,H⟩:=H
         replace H : (aI.j1 k1 zM (!Cc) zU zL ((aG zL zM).f0) ((aG zL zM).f1) ((aG zL zM).f2) ((aG zL zM).f3) ((aG zL zM).f4) ((aG zL zM).f5)) = some r:=H
         have JR:=Aside0.mk He
         clear He
         have H':=Aside0.mk H
         clear H
         have JZ:=zT.out
         have J2:=zP.out
         have Cj : BM.cell? ⟨zO,0,none⟩ = some (.string (⟨#[]⟩ : ByteArray)):=(ay zN.out 0).trans rfl
         have Ck : BM.cell? ⟨zO,1,none⟩ = some (.string (⟨#[]⟩ : ByteArray)):=(ay zN.out 1).trans rfl
         have Cm : BM.cell? ⟨zO,2,none⟩ = some (.string (⟨#[]⟩ : ByteArray)):=(ay zN.out 2).trans rfl
         have Cn : BM.cell? ⟨zO,3,none⟩ = some (.int .u8 0):=(ay zN.out 3).trans rfl
         have Co : BM.cell? ⟨zO,4,none⟩ = some (.int .u16 0):=(ay zN.out 4).trans rfl
         have Cq : BM.cell? ⟨zO,5,none⟩ = some (.slice none 0 0):=(ay zN.out 5).trans rfl
         have Cr:=av zN.out 0
         have Ct:=av zN.out 1
         have Cu:=av zN.out 2
         have Cv:=av zN.out 3
         have Cw:=av zN.out 4
         have Cx:=av zN.out 5
         go_wp2_with (first|(go_at_call 19;(with_reducible refine (aV.calls k1 ((aG zL zM).f0) true _ Gc.out).mono ?_);rintro e w' ⟨rfl,⟨nd,rfl⟩⟩;(try first|exact ⟨rfl,_,World.drewN_drewN _ _ _⟩|exact ⟨rfl,_,Eq.trans (World.drewN_drewN _ _ _) (congrArg (World.drewN _) (Nat.add_assoc _ _ _))⟩))|(go_at_call 35;(with_reducible refine (bD.calls k1 ((aG zL zM).f1) true _ GX.out).mono ?_);rintro e DI ⟨rfl,hb⟩;have Ai:=Aside0.mk (aQ (g:=zS) (o:=.cells #[.int .u64 zU,.slice (some Ag) zL.length Ab] 53 (0,0)) (by (with_reducible repeat (first|apply aj|apply au|apply ah));refine aJ ?_ zP.out _;(with_reducible repeat (first|apply aj|apply au|apply ah));refine aJ ?_ zP.out _;(with_reducible repeat (first|apply aj|apply au|apply ah));refine aJ ?_ zP.out _;(with_reducible repeat (first|apply aj|apply au|apply ah));refine aJ ?_ zP.out _;(with_reducible repeat (first|apply aj|apply au|apply ah));refine aJ ?_ zP.out _;(with_reducible repeat (first|apply aj|apply au|apply ah));refine aJ ?_ zP.out _;(with_reducible repeat (first|apply aj|apply au|apply ah));exact zQ.out) hb);have Aj:=Aside0.mk (aQ (g:=zO) (o:=.cells #[.string ((aG zL zM).f0),.string ((aG zL zM).f1),.string ((aG zL zM).f2),.int .u8 ((aG zL zM).f3),.int .u16 ((aG zL zM).f4),.slice zZ ((aG zL zM).f5).length zY] 103 (0,0)) (by (with_reducible repeat (first|apply aj|apply au|apply ah));refine aX (cs:=#[.string ((aG zL zM).f0),.string ((aG zL zM).f1),.string ((aG zL zM).f2),.int .u8 ((aG zL zM).f3),.int .u16 ((aG zL zM).f4),.slice none 0 0]) ?_ 5 _ rfl;(with_reducible repeat (first|apply aj|apply au|apply ah));refine aX (cs:=#[.string ((aG zL zM).f0),.string ((aG zL zM).f1),.string ((aG zL zM).f2),.int .u8 ((aG zL zM).f3),.int .u16 0,.slice none 0 0]) ?_ 4 _ rfl;(with_reducible repeat (first|apply aj|apply au|apply ah));refine aX (cs:=#[.string ((aG zL zM).f0),.string ((aG zL zM).f1),.string ((aG zL zM).f2),.int .u8 0,.int .u16 0,.slice none 0 0]) ?_ 3 _ rfl;(with_reducible repeat (first|apply aj|apply au|apply ah));refine aX (cs:=#[.string ((aG zL zM).f0),.string ((aG zL zM).f1),.string (⟨#[]⟩ : ByteArray),.int .u8 0,.int .u16 0,.slice none 0 0]) ?_ 2 _ rfl;(with_reducible repeat (first|apply aj|apply au|apply ah));refine aX (cs:=#[.string ((aG zL zM).f0),.string (⟨#[]⟩ : ByteArray),.string (⟨#[]⟩ : ByteArray),.int .u8 0,.int .u16 0,.slice none 0 0]) ?_ 1 _ rfl;(with_reducible repeat (first|apply aj|apply au|apply ah));refine aX (cs:=#[.string (⟨#[]⟩ : ByteArray),.string (⟨#[]⟩ : ByteArray),.string (⟨#[]⟩ : ByteArray),.int .u8 0,.int .u16 0,.slice none 0 0]) ?_ 0 _ rfl;(with_reducible repeat (first|apply aj|apply au|apply ah));exact zN.out) hb);have Ak:=Aside0.mk (aU (by repeat (first|(with_reducible first|exact HB.out|apply aD|apply ak|apply aC|refine aA ?_ zV.out|refine aA ?_ z8.out)|exact HB.out)) hb);clear zQ;clear zN;clear HB;have zQ:=Ai;have zN:=Aj;have HB:=Ak;clear Ai Aj Ak;(try clear hb);(try clear hb2);(try clear hk);(try clear hi);have A9 : DI.cell? ⟨zO,0,none⟩ = some (.string ((aG zL zM).f0)):=(ay zN.out 0).trans rfl;have Bf : DI.cell? ⟨zO,1,none⟩ = some (.string ((aG zL zM).f1)):=(ay zN.out 1).trans rfl;have Bg : DI.cell? ⟨zO,2,none⟩ = some (.string ((aG zL zM).f2)):=(ay zN.out 2).trans rfl;have Bh : DI.cell? ⟨zO,3,none⟩ = some (.int .u8 ((aG zL zM).f3)):=(ay zN.out 3).trans rfl;have Bj : DI.cell? ⟨zO,4,none⟩ = some (.int .u16 ((aG zL zM).f4)):=(ay zN.out 4).trans rfl;have Bl : DI.cell? ⟨zO,5,none⟩ = some (.slice zZ ((aG zL zM).f5).length zY):=(ay zN.out 5).trans rfl;have Bn:=av zN.out 0;have Bo:=av zN.out 1;have Bp:=av zN.out 2;have Bq:=av zN.out 3;have Br:=av zN.out 4;have Bt:=av zN.out 5)|(go_at_call 54;(with_reducible refine (bG.calls k1 ((aG zL zM).f2) Cc _ JR.out).mono ?_);rintro e w' ⟨rfl,⟨nd,rfl⟩⟩;(try first|exact ⟨rfl,_,World.drewN_drewN _ _ _⟩|exact ⟨rfl,_,Eq.trans (World.drewN_drewN _ _ _) (congrArg (World.drewN _) (Nat.add_assoc _ _ _))⟩)))
         repeat (go_quiet (first|(go_at_call 19;(with_reducible refine (aV.calls k1 ((aG zL zM).f0) true _ Gc.out).mono ?_);rintro e w' ⟨rfl,⟨nd,rfl⟩⟩;(try first|exact ⟨rfl,_,World.drewN_drewN _ _ _⟩|exact ⟨rfl,_,Eq.trans (World.drewN_drewN _ _ _) (congrArg (World.drewN _) (Nat.add_assoc _ _ _))⟩))|(go_at_call 35;(with_reducible refine (bD.calls k1 ((aG zL zM).f1) true _ GX.out).mono ?_);rintro e DI ⟨rfl,hb⟩;have Ai:=Aside0.mk (aQ (g:=zS) (o:=.cells #[.int .u64 zU,.slice (some Ag) zL.length Ab] 53 (0,0)) (by (with_reducible repeat (first|apply aj|apply au|apply ah));refine aJ ?_ zP.out _;(with_reducible repeat (first|apply aj|apply au|apply ah));refine aJ ?_ zP.out _;(with_reducible repeat (first|apply aj|apply au|apply ah));refine aJ ?_ zP.out _;(with_reducible repeat (first|apply aj|apply au|apply ah));refine aJ ?_ zP.out _;(with_reducible repeat (first|apply aj|apply au|apply ah));refine aJ ?_ zP.out _;(with_reducible repeat (first|apply aj|apply au|apply ah));refine aJ ?_ zP.out _;(with_reducible repeat (first|apply aj|apply au|apply ah));exact zQ.out) hb);have Aj:=Aside0.mk (aQ (g:=zO) (o:=.cells #[.string ((aG zL zM).f0),.string ((aG zL zM).f1),.string ((aG zL zM).f2),.int .u8 ((aG zL zM).f3),.int .u16 ((aG zL zM).f4),.slice zZ ((aG zL zM).f5).length zY] 103 (0,0)) (by (with_reducible repeat (first|apply aj|apply au|apply ah));refine aX (cs:=#[.string ((aG zL zM).f0),.string ((aG zL zM).f1),.string ((aG zL zM).f2),.int .u8 ((aG zL zM).f3),.int .u16 ((aG zL zM).f4),.slice none 0 0]) ?_ 5 _ rfl;(with_reducible repeat (first|apply aj|apply au|apply ah));refine aX (cs:=#[.string ((aG zL zM).f0),.string ((aG zL zM).f1),.string ((aG zL zM).f2),.int .u8 ((aG zL zM).f3),.int .u16 0,.slice none 0 0]) ?_ 4 _ rfl;(with_reducible repeat (first|apply aj|apply au|apply ah));refine aX (cs:=#[.string ((aG zL zM).f0),.string ((aG zL zM).f1),.string ((aG zL zM).f2),.int .u8 0,.int .u16 0,.slice none 0 0]) ?_ 3 _ rfl;(with_reducible repeat (first|apply aj|apply au|apply ah));refine aX (cs:=#[.string ((aG zL zM).f0),.string ((aG zL zM).f1),.string (⟨#[]⟩ : ByteArray),.int .u8 0,.int .u16 0,.slice none 0 0]) ?_ 2 _ rfl;(with_reducible repeat (first|apply aj|apply au|apply ah));refine aX (cs:=#[.string ((aG zL zM).f0),.string (⟨#[]⟩ : ByteArray),.string (⟨#[]⟩ : ByteArray),.int .u8 0,.int .u16 0,.slice none 0 0]) ?_ 1 _ rfl;(with_reducible repeat (first|apply aj|apply au|apply ah));refine aX (cs:=#[.string (⟨#[]⟩ : ByteArray),.string (⟨#[]⟩ : ByteArray),.string (⟨#[]⟩ : ByteArray),.int .u8 0,.int .u16 0,.slice none 0 0]) ?_ 0 _ rfl;(with_reducible repeat (first|apply aj|apply au|apply ah));exact zN.out) hb);have Ak:=Aside0.mk (aU (by repeat (first|(with_reducible first|exact HB.out|apply aD|apply ak|apply aC|refine aA ?_ zV.out|refine aA ?_ z8.out)|exact HB.out)) hb);clear zQ;clear zN;clear HB;have zQ:=Ai;have zN:=Aj;have HB:=Ak;clear Ai Aj Ak;(try clear hb);(try clear hb2);(try clear hk);(try clear hi);have A9 : DI.cell? ⟨zO,0,none⟩ = some (.string ((aG zL zM).f0)):=(ay zN.out 0).trans rfl;have Bf : DI.cell? ⟨zO,1,none⟩ = some (.string ((aG zL zM).f1)):=(ay zN.out 1).trans rfl;have Bg : DI.cell? ⟨zO,2,none⟩ = some (.string ((aG zL zM).f2)):=(ay zN.out 2).trans rfl;have Bh : DI.cell? ⟨zO,3,none⟩ = some (.int .u8 ((aG zL zM).f3)):=(ay zN.out 3).trans rfl;have Bj : DI.cell? ⟨zO,4,none⟩ = some (.int .u16 ((aG zL zM).f4)):=(ay zN.out 4).trans rfl;have Bl : DI.cell? ⟨zO,5,none⟩ = some (.slice zZ ((aG zL zM).f5).length zY):=(ay zN.out 5).trans rfl;have Bn:=av zN.out 0;have Bo:=av zN.out 1;have Bp:=av zN.out 2;have Bq:=av zN.out 3;have Br:=av zN.out 4;have Bt:=av zN.out 5)|(go_at_call 54;(with_reducible refine (bG.calls k1 ((aG zL zM).f2) Cc _ JR.out).mono ?_);rintro e w' ⟨rfl,⟨nd,rfl⟩⟩;(try first|exact ⟨rfl,_,World.drewN_drewN _ _ _⟩|exact ⟨rfl,_,Eq.trans (World.drewN_drewN _ _ _) (congrArg (World.drewN _) (Nat.add_assoc _ _ _))⟩)));try go_wp2_with (first|(go_at_call 19;(with_reducible refine (aV.calls k1 ((aG zL zM).f0) true _ Gc.out).mono ?_);rintro e w' ⟨rfl,⟨nd,rfl⟩⟩;(try first|exact ⟨rfl,_,World.drewN_drewN _ _ _⟩|exact ⟨rfl,_,Eq.trans (World.drewN_drewN _ _ _) (congrArg (World.drewN _) (Nat.add_assoc _ _ _))⟩))|(go_at_call 35;(with_reducible refine (bD.calls k1 ((aG zL zM).f1) true _ GX.out).mono ?_);rintro e DI ⟨rfl,hb⟩;have Ai:=Aside0.mk (aQ (g:=zS) (o:=.cells #[.int .u64 zU,.slice (some Ag) zL.length Ab] 53 (0,0)) (by (with_reducible repeat (first|apply aj|apply au|apply ah));refine aJ ?_ zP.out _;(with_reducible repeat (first|apply aj|apply au|apply ah));refine aJ ?_ zP.out _;(with_reducible repeat (first|apply aj|apply au|apply ah));refine aJ ?_ zP.out _;(with_reducible repeat (first|apply aj|apply au|apply ah));refine aJ ?_ zP.out _;(with_reducible repeat (first|apply aj|apply au|apply ah));refine aJ ?_ zP.out _;(with_reducible repeat (first|apply aj|apply au|apply ah));refine aJ ?_ zP.out _;(with_reducible repeat (first|apply aj|apply au|apply ah));exact zQ.out) hb);have Aj:=Aside0.mk (aQ (g:=zO) (o:=.cells #[.string ((aG zL zM).f0),.string ((aG zL zM).f1),.string ((aG zL zM).f2),.int .u8 ((aG zL zM).f3),.int .u16 ((aG zL zM).f4),.slice zZ ((aG zL zM).f5).length zY] 103 (0,0)) (by (with_reducible repeat (first|apply aj|apply au|apply ah));refine aX (cs:=#[.string ((aG zL zM).f0),.string ((aG zL zM).f1),.string ((aG zL zM).f2),.int .u8 ((aG zL zM).f3),.int .u16 ((aG zL zM).f4),.slice none 0 0]) ?_ 5 _ rfl;(with_reducible repeat (first|apply aj|apply au|apply ah));refine aX (cs:=#[.string ((aG zL zM).f0),.string ((aG zL zM).f1),.string ((aG zL zM).f2),.int .u8 ((aG zL zM).f3),.int .u16 0,.slice none 0 0]) ?_ 4 _ rfl;(with_reducible repeat (first|apply aj|apply au|apply ah));refine aX (cs:=#[.string ((aG zL zM).f0),.string ((aG zL zM).f1),.string ((aG zL zM).f2),.int .u8 0,.int .u16 0,.slice none 0 0]) ?_ 3 _ rfl;(with_reducible repeat (first|apply aj|apply au|apply ah));refine aX (cs:=#[.string ((aG zL zM).f0),.string ((aG zL zM).f1),.string (⟨#[]⟩ : ByteArray),.int .u8 0,.int .u16 0,.slice none 0 0]) ?_ 2 _ rfl;(with_reducible repeat (first|apply aj|apply au|apply ah));refine aX (cs:=#[.string ((aG zL zM).f0),.string (⟨#[]⟩ : ByteArray),.string (⟨#[]⟩ : ByteArray),.int .u8 0,.int .u16 0,.slice none 0 0]) ?_ 1 _ rfl;(with_reducible repeat (first|apply aj|apply au|apply ah));refine aX (cs:=#[.string (⟨#[]⟩ : ByteArray),.string (⟨#[]⟩ : ByteArray),.string (⟨#[]⟩ : ByteArray),.int .u8 0,.int .u16 0,.slice none 0 0]) ?_ 0 _ rfl;(with_reducible repeat (first|apply aj|apply au|apply ah));exact zN.out) hb);have Ak:=Aside0.mk (aU (by repeat (first|(with_reducible first|exact HB.out|apply aD|apply ak|apply aC|refine aA ?_ zV.out|refine aA ?_ z8.out)|exact HB.out)) hb);clear zQ;clear zN;clear HB;have zQ:=Ai;have zN:=Aj;have HB:=Ak;clear Ai Aj Ak;(try clear hb);(try clear hb2);(try clear hk);(try clear hi);have A9 : DI.cell? ⟨zO,0,none⟩ = some (.string ((aG zL zM).f0)):=(ay zN.out 0).trans rfl;have Bf : DI.cell? ⟨zO,1,none⟩ = some (.string ((aG zL zM).f1)):=(ay zN.out 1).trans rfl;have Bg : DI.cell? ⟨zO,2,none⟩ = some (.string ((aG zL zM).f2)):=(ay zN.out 2).trans rfl;have Bh : DI.cell? ⟨zO,3,none⟩ = some (.int .u8 ((aG zL zM).f3)):=(ay zN.out 3).trans rfl;have Bj : DI.cell? ⟨zO,4,none⟩ = some (.int .u16 ((aG zL zM).f4)):=(ay zN.out 4).trans rfl;have Bl : DI.cell? ⟨zO,5,none⟩ = some (.slice zZ ((aG zL zM).f5).length zY):=(ay zN.out 5).trans rfl;have Bn:=av zN.out 0;have Bo:=av zN.out 1;have Bp:=av zN.out 2;have Bq:=av zN.out 3;have Br:=av zN.out 4;have Bt:=av zN.out 5)|(go_at_call 54;(with_reducible refine (bG.calls k1 ((aG zL zM).f2) Cc _ JR.out).mono ?_);rintro e w' ⟨rfl,⟨nd,rfl⟩⟩;(try first|exact ⟨rfl,_,World.drewN_drewN _ _ _⟩|exact ⟨rfl,_,Eq.trans (World.drewN_drewN _ _ _) (congrArg (World.drewN _) (Nat.add_assoc _ _ _))⟩))))
         go_meet
         case rel=>exact ⟨_,(!Cc),(by first|rfl|(simp;done)|(simp [*];done)),H',⟨by have:=ER.out;first|omega|exact Nat.le_refl _⟩,⟨by (with_reducible repeat (first|apply aj|apply au|apply ah));exact zQ.out⟩,⟨by (with_reducible repeat (first|apply aj|apply au|apply ah));exact zN.out⟩,⟨by repeat (first|(with_reducible first|exact HB.out|apply aD|apply ak|apply aC|refine aA ?_ zV.out|refine aA ?_ z8.out)|exact HB.out)⟩⟩
        ·replace c17:=Bool.eq_false_iff.mpr c17
         subst c17
         have H1 : (aI.j1 k1 zM true zU zL ((aG zL zM).f0) ((aG zL zM).f1) ((aG zL zM).f2) ((aG zL zM).f3) ((aG zL zM).f4) ((aG zL zM).f5)) = some r:=by rw [if_neg (show ¬ (false = true) by decide)] at H;exact H
         clear H
         have H:=H1
         clear H1
         have H':=Aside0.mk H
         clear H
         have J3:=zT.out
         have J4:=zP.out
         have Cy : BM.cell? ⟨zO,0,none⟩ = some (.string (⟨#[]⟩ : ByteArray)):=(ay zN.out 0).trans rfl
         have Cz : BM.cell? ⟨zO,1,none⟩ = some (.string (⟨#[]⟩ : ByteArray)):=(ay zN.out 1).trans rfl
         have CB : BM.cell? ⟨zO,2,none⟩ = some (.string (⟨#[]⟩ : ByteArray)):=(ay zN.out 2).trans rfl
         have CF : BM.cell? ⟨zO,3,none⟩ = some (.int .u8 0):=(ay zN.out 3).trans rfl
         have CG : BM.cell? ⟨zO,4,none⟩ = some (.int .u16 0):=(ay zN.out 4).trans rfl
         have CJ : BM.cell? ⟨zO,5,none⟩ = some (.slice none 0 0):=(ay zN.out 5).trans rfl
         have CK:=av zN.out 0
         have CO:=av zN.out 1
         have CP:=av zN.out 2
         have CQ:=av zN.out 3
         have CS:=av zN.out 4
         have CU:=av zN.out 5
         go_wp2_with (first|(go_at_call 19;(with_reducible refine (aV.calls k1 ((aG zL zM).f0) true _ Gc.out).mono ?_);rintro e w' ⟨rfl,⟨nd,rfl⟩⟩;(try first|exact ⟨rfl,_,World.drewN_drewN _ _ _⟩|exact ⟨rfl,_,Eq.trans (World.drewN_drewN _ _ _) (congrArg (World.drewN _) (Nat.add_assoc _ _ _))⟩))|(go_at_call 35;(with_reducible refine (bD.calls k1 ((aG zL zM).f1) false _ GX.out).mono ?_);rintro e J5 ⟨rfl,hb⟩;have Ai:=Aside0.mk (aQ (g:=zS) (o:=.cells #[.int .u64 zU,.slice (some Ag) zL.length Ab] 53 (0,0)) (by (with_reducible repeat (first|apply aj|apply au|apply ah));refine aJ ?_ zP.out _;(with_reducible repeat (first|apply aj|apply au|apply ah));refine aJ ?_ zP.out _;(with_reducible repeat (first|apply aj|apply au|apply ah));refine aJ ?_ zP.out _;(with_reducible repeat (first|apply aj|apply au|apply ah));refine aJ ?_ zP.out _;(with_reducible repeat (first|apply aj|apply au|apply ah));refine aJ ?_ zP.out _;(with_reducible repeat (first|apply aj|apply au|apply ah));refine aJ ?_ zP.out _;(with_reducible repeat (first|apply aj|apply au|apply ah));exact zQ.out) hb);have Aj:=Aside0.mk (aQ (g:=zO) (o:=.cells #[.string ((aG zL zM).f0),.string ((aG zL zM).f1),.string ((aG zL zM).f2),.int .u8 ((aG zL zM).f3),.int .u16 ((aG zL zM).f4),.slice zZ ((aG zL zM).f5).length zY] 103 (0,0)) (by (with_reducible repeat (first|apply aj|apply au|apply ah));refine aX (cs:=#[.string ((aG zL zM).f0),.string ((aG zL zM).f1),.string ((aG zL zM).f2),.int .u8 ((aG zL zM).f3),.int .u16 ((aG zL zM).f4),.slice none 0 0]) ?_ 5 _ rfl;(with_reducible repeat (first|apply aj|apply au|apply ah));refine aX (cs:=#[.string ((aG zL zM).f0),.string ((aG zL zM).f1),.string ((aG zL zM).f2),.int .u8 ((aG zL zM).f3),.int .u16 0,.slice none 0 0]) ?_ 4 _ rfl;(with_reducible repeat (first|apply aj|apply au|apply ah));refine aX (cs:=#[.string ((aG zL zM).f0),.string ((aG zL zM).f1),.string ((aG zL zM).f2),.int .u8 0,.int .u16 0,.slice none 0 0]) ?_ 3 _ rfl;(with_reducible repeat (first|apply aj|apply au|apply ah));refine aX (cs:=#[.string ((aG zL zM).f0),.string ((aG zL zM).f1),.string (⟨#[]⟩ : ByteArray),.int .u8 0,.int .u16 0,.slice none 0 0]) ?_ 2 _ rfl;(with_reducible repeat (first|apply aj|apply au|apply ah));refine aX (cs:=#[.string ((aG zL zM).f0),.string (⟨#[]⟩ : ByteArray),.string (⟨#[]⟩ : ByteArray),.int .u8 0,.int .u16 0,.slice none 0 0]) ?_ 1 _ rfl;(with_reducible repeat (first|apply aj|apply au|apply ah));refine aX (cs:=#[.string (⟨#[]⟩ : ByteArray),.string (⟨#[]⟩ : ByteArray),.string (⟨#[]⟩ : ByteArray),.int .u8 0,.int .u16 0,.slice none 0 0]) ?_ 0 _ rfl;(with_reducible repeat (first|apply aj|apply au|apply ah));exact zN.out) hb);have Ak:=Aside0.mk (aU (by repeat (first|(with_reducible first|exact HB.out|apply aD|apply ak|apply aC|refine aA ?_ zV.out|refine aA ?_ z8.out)|exact HB.out)) hb);clear zQ;clear zN;clear HB;have zQ:=Ai;have zN:=Aj;have HB:=Ak;clear Ai Aj Ak;(try clear hb);(try clear hb2);(try clear hk);(try clear hi)))
         repeat (go_quiet (first|(go_at_call 19;(with_reducible refine (aV.calls k1 ((aG zL zM).f0) true _ Gc.out).mono ?_);rintro e w' ⟨rfl,⟨nd,rfl⟩⟩;(try first|exact ⟨rfl,_,World.drewN_drewN _ _ _⟩|exact ⟨rfl,_,Eq.trans (World.drewN_drewN _ _ _) (congrArg (World.drewN _) (Nat.add_assoc _ _ _))⟩))|(go_at_call 35;(with_reducible refine (bD.calls k1 ((aG zL zM).f1) false _ GX.out).mono ?_);rintro e J5 ⟨rfl,hb⟩;have Ai:=Aside0.mk (aQ (g:=zS) (o:=.cells #[.int .u64 zU,.slice (some Ag) zL.length Ab] 53 (0,0)) (by (with_reducible repeat (first|apply aj|apply au|apply ah));refine aJ ?_ zP.out _;(with_reducible repeat (first|apply aj|apply au|apply ah));refine aJ ?_ zP.out _;(with_reducible repeat (first|apply aj|apply au|apply ah));refine aJ ?_ zP.out _;(with_reducible repeat (first|apply aj|apply au|apply ah));refine aJ ?_ zP.out _;(with_reducible repeat (first|apply aj|apply au|apply ah));refine aJ ?_ zP.out _;(with_reducible repeat (first|apply aj|apply au|apply ah));refine aJ ?_ zP.out _;(with_reducible repeat (first|apply aj|apply au|apply ah));exact zQ.out) hb);have Aj:=Aside0.mk (aQ (g:=zO) (o:=.cells #[.string ((aG zL zM).f0),.string ((aG zL zM).f1),.string ((aG zL zM).f2),.int .u8 ((aG zL zM).f3),.int .u16 ((aG zL zM).f4),.slice zZ ((aG zL zM).f5).length zY] 103 (0,0)) (by (with_reducible repeat (first|apply aj|apply au|apply ah));refine aX (cs:=#[.string ((aG zL zM).f0),.string ((aG zL zM).f1),.string ((aG zL zM).f2),.int .u8 ((aG zL zM).f3),.int .u16 ((aG zL zM).f4),.slice none 0 0]) ?_ 5 _ rfl;(with_reducible repeat (first|apply aj|apply au|apply ah));refine aX (cs:=#[.string ((aG zL zM).f0),.string ((aG zL zM).f1),.string ((aG zL zM).f2),.int .u8 ((aG zL zM).f3),.int .u16 0,.slice none 0 0]) ?_ 4 _ rfl;(with_reducible repeat (first|apply aj|apply au|apply ah));refine aX (cs:=#[.string ((aG zL zM).f0),.string ((aG zL zM).f1),.string ((aG zL zM).f2),.int .u8 0,.int .u16 0,.slice none 0 0]) ?_ 3 _ rfl;(with_reducible repeat (first|apply aj|apply au|apply ah));refine aX (cs:=#[.string ((aG zL zM).f0),.string ((aG zL zM).f1),.string (⟨#[]⟩ : ByteArray),.int .u8 0,.int .u16 0,.slice none 0 0]) ?_ 2 _ rfl;(with_reducible repeat (first|apply aj|apply au|apply ah));refine aX (cs:=#[.string ((aG zL zM).f0),.string (⟨#[]⟩ : ByteArray),.string (⟨#[]⟩ : ByteArray),.int .u8 0,.int .u16 0,.slice none 0 0]) ?_ 1 _ rfl;(with_reducible repeat (first|apply aj|apply au|apply ah));refine aX (cs:=#[.string (⟨#[]⟩ : ByteArray),.string (⟨#[]⟩ : ByteArray),.string (⟨#[]⟩ : ByteArray),.int .u8 0,.int .u16 0,.slice none 0 0]) ?_ 0 _ rfl;(with_reducible repeat (first|apply aj|apply au|apply ah));exact zN.out) hb);have Ak:=Aside0.mk (aU (by repeat (first|(with_reducible first|exact HB.out|apply aD|apply ak|apply aC|refine aA ?_ zV.out|refine aA ?_ z8.out)|exact HB.out)) hb);clear zQ;clear zN;clear HB;have zQ:=Ai;have zN:=Aj;have HB:=Ak;clear Ai Aj Ak;(try clear hb);(try clear hb2);(try clear hk);(try clear hi)));try go_wp2_with (first|(go_at_call 19;(with_reducible refine (aV.calls k1 ((aG zL zM).f0) true _ Gc.out).mono ?_);rintro e w' ⟨rfl,⟨nd,rfl⟩⟩;(try first|exact ⟨rfl,_,World.drewN_drewN _ _ _⟩|exact ⟨rfl,_,Eq.trans (World.drewN_drewN _ _ _) (congrArg (World.drewN _) (Nat.add_assoc _ _ _))⟩))|(go_at_call 35;(with_reducible refine (bD.calls k1 ((aG zL zM).f1) false _ GX.out).mono ?_);rintro e J5 ⟨rfl,hb⟩;have Ai:=Aside0.mk (aQ (g:=zS) (o:=.cells #[.int .u64 zU,.slice (some Ag) zL.length Ab] 53 (0,0)) (by (with_reducible repeat (first|apply aj|apply au|apply ah));refine aJ ?_ zP.out _;(with_reducible repeat (first|apply aj|apply au|apply ah));refine aJ ?_ zP.out _;(with_reducible repeat (first|apply aj|apply au|apply ah));refine aJ ?_ zP.out _;(with_reducible repeat (first|apply aj|apply au|apply ah));refine aJ ?_ zP.out _;(with_reducible repeat (first|apply aj|apply au|apply ah));refine aJ ?_ zP.out _;(with_reducible repeat (first|apply aj|apply au|apply ah));refine aJ ?_ zP.out _;(with_reducible repeat (first|apply aj|apply au|apply ah));exact zQ.out) hb);have Aj:=Aside0.mk (aQ (g:=zO) (o:=.cells #[.string ((aG zL zM).f0),.string ((aG zL zM).f1),.string ((aG zL zM).f2),.int .u8 ((aG zL zM).f3),.int .u16 ((aG zL zM).f4),.slice zZ ((aG zL zM).f5).length zY] 103 (0,0)) (by (with_reducible repeat (first|apply aj|apply au|apply ah));refine aX (cs:=#[.string ((aG zL zM).f0),.string ((aG zL zM).f1),.string ((aG zL zM).f2),.int .u8 ((aG zL zM).f3),.int .u16 ((aG zL zM).f4),.slice none 0 0]) ?_ 5 _ rfl;(with_reducible repeat (first|apply aj|apply au|apply ah));refine aX (cs:=#[.string ((aG zL zM).f0),.string ((aG zL zM).f1),.string ((aG zL zM).f2),.int .u8 ((aG zL zM).f3),.int .u16 0,.slice none 0 0]) ?_ 4 _ rfl;(with_reducible repeat (first|apply aj|apply au|apply ah));refine aX (cs:=#[.string ((aG zL zM).f0),.string ((aG zL zM).f1),.string ((aG zL zM).f2),.int .u8 0,.int .u16 0,.slice none 0 0]) ?_ 3 _ rfl;(with_reducible repeat (first|apply aj|apply au|apply ah));refine aX (cs:=#[.string ((aG zL zM).f0),.string ((aG zL zM).f1),.string (⟨#[]⟩ : ByteArray),.int .u8 0,.int .u16 0,.slice none 0 0]) ?_ 2 _ rfl;(with_reducible repeat (first|apply aj|apply au|apply ah));refine aX (cs:=#[.string ((aG zL zM).f0),.string (⟨#[]⟩ : ByteArray),.string (⟨#[]⟩ : ByteArray),.int .u8 0,.int .u16 0,.slice none 0 0]) ?_ 1 _ rfl;(with_reducible repeat (first|apply aj|apply au|apply ah));refine aX (cs:=#[.string (⟨#[]⟩ : ByteArray),.string (⟨#[]⟩ : ByteArray),.string (⟨#[]⟩ : ByteArray),.int .u8 0,.int .u16 0,.slice none 0 0]) ?_ 0 _ rfl;(with_reducible repeat (first|apply aj|apply au|apply ah));exact zN.out) hb);have Ak:=Aside0.mk (aU (by repeat (first|(with_reducible first|exact HB.out|apply aD|apply ak|apply aC|refine aA ?_ zV.out|refine aA ?_ z8.out)|exact HB.out)) hb);clear zQ;clear zN;clear HB;have zQ:=Ai;have zN:=Aj;have HB:=Ak;clear Ai Aj Ak;(try clear hb);(try clear hb2);(try clear hk);(try clear hi))))
         go_meet
         case rel=>exact ⟨_,(true),(by first|rfl|(simp;done)|(simp [*];done)),H',⟨by have:=ER.out;first|omega|exact Nat.le_refl _⟩,⟨by (with_reducible repeat (first|apply aj|apply au|apply ah));exact zQ.out⟩,⟨by (with_reducible repeat (first|apply aj|apply au|apply ah));exact zN.out⟩,⟨by repeat (first|(with_reducible first|exact HB.out|apply aD|apply ak|apply aC|refine aA ?_ zV.out|refine aA ?_ z8.out)|exact HB.out)⟩⟩
       ·replace c15:=Bool.eq_false_iff.mpr c15
        subst c15
        have H1 : (aI.j1 k1 zM true zU zL ((aG zL zM).f0) ((aG zL zM).f1) ((aG zL zM).f2) ((aG zL zM).f3) ((aG zL zM).f4) ((aG zL zM).f5)) = some r:=by rw [if_neg (show ¬ (false = true) by decide)] at H;exact H
        clear H
        have H:=H1
        clear H1
        have H':=Aside0.mk H
        clear H
        have J6:=zT.out
        have J7:=zP.out
        have CV : BM.cell? ⟨zO,0,none⟩ = some (.string (⟨#[]⟩ : ByteArray)):=(ay zN.out 0).trans rfl
        have CW : BM.cell? ⟨zO,1,none⟩ = some (.string (⟨#[]⟩ : ByteArray)):=(ay zN.out 1).trans rfl
        have CX : BM.cell? ⟨zO,2,none⟩ = some (.string (⟨#[]⟩ : ByteArray)):=(ay zN.out 2).trans rfl
        have CY : BM.cell? ⟨zO,3,none⟩ = some (.int .u8 0):=(ay zN.out 3).trans rfl
        have CZ : BM.cell? ⟨zO,4,none⟩ = some (.int .u16 0):=(ay zN.out 4).trans rfl
        have C8 : BM.cell? ⟨zO,5,none⟩ = some (.slice none 0 0):=(ay zN.out 5).trans rfl
        have C9:=av zN.out 0
        have Da:=av zN.out 1
        have Db:=av zN.out 2
        have Dc:=av zN.out 3
        have Df:=av zN.out 4
        have Dh:=av zN.out 5
        go_wp2_with (first|(go_at_call 19;(with_reducible refine (aV.calls k1 ((aG zL zM).f0) false _ Gc.out).mono ?_);rintro e w' ⟨rfl,⟨nd,rfl⟩⟩;(try first|exact ⟨rfl,_,World.drewN_drewN _ _ _⟩|exact ⟨rfl,_,Eq.trans (World.drewN_drewN _ _ _) (congrArg (World.drewN _) (Nat.add_assoc _ _ _))⟩)))
        repeat (go_quiet (first|(go_at_call 19;(with_reducible refine (aV.calls k1 ((aG zL zM).f0) false _ Gc.out).mono ?_);rintro e w' ⟨rfl,⟨nd,rfl⟩⟩;(try first|exact ⟨rfl,_,World.drewN_drewN _ _ _⟩|exact ⟨rfl,_,Eq.trans (World.drewN_drewN _ _ _) (congrArg (World.drewN _) (Nat.add_assoc _ _ _))⟩)));try go_wp2_with (first|(go_at_call 19;(with_reducible refine (aV.calls k1 ((aG zL zM).f0) false _ Gc.out).mono ?_);rintro e w' ⟨rfl,⟨nd,rfl⟩⟩;(try first|exact ⟨rfl,_,World.drewN_drewN _ _ _⟩|exact ⟨rfl,_,Eq.trans (World.drewN_drewN _ _ _) (congrArg (World.drewN _) (Nat.add_assoc _ _ _))⟩))))
        go_meet
        case rel=>exact ⟨_,(true),(by first|rfl|(simp;done)|(simp [*];done)),H',⟨by have:=ER.out;first|omega|exact Nat.le_refl _⟩,⟨by (with_reducible repeat (first|apply aj|apply au|apply ah));refine aJ ?_ zP.out _;(with_reducible repeat (first|apply aj|apply au|apply ah));refine aJ ?_ zP.out _;(with_reducible repeat (first|apply aj|apply au|apply ah));refine aJ ?_ zP.out _;(with_reducible repeat (first|apply aj|apply au|apply ah));refine aJ ?_ zP.out _;(with_reducible repeat (first|apply aj|apply au|apply ah));refine aJ ?_ zP.out _;(with_reducible repeat (first|apply aj|apply au|apply ah));refine aJ ?_ zP.out _;(with_reducible repeat (first|apply aj|apply au|apply ah));exact zQ.out⟩,⟨by (with_reducible repeat (first|apply aj|apply au|apply ah));refine aX (cs:=#[.string ((aG zL zM).f0),.string ((aG zL zM).f1),.string ((aG zL zM).f2),.int .u8 ((aG zL zM).f3),.int .u16 ((aG zL zM).f4),.slice none 0 0]) ?_ 5 _ rfl;(with_reducible repeat (first|apply aj|apply au|apply ah));refine aX (cs:=#[.string ((aG zL zM).f0),.string ((aG zL zM).f1),.string ((aG zL zM).f2),.int .u8 ((aG zL zM).f3),.int .u16 0,.slice none 0 0]) ?_ 4 _ rfl;(with_reducible repeat (first|apply aj|apply au|apply ah));refine aX (cs:=#[.string ((aG zL zM).f0),.string ((aG zL zM).f1),.string ((aG zL zM).f2),.int .u8 0,.int .u16 0,.slice none 0 0]) ?_ 3 _ rfl;(with_reducible repeat (first|apply aj|apply au|apply ah));refine aX (cs:=#[.string ((aG zL zM).f0),.string ((aG zL zM).f1),.string (⟨#[]⟩ : ByteArray),.int .u8 0,.int .u16 0,.slice none 0 0]) ?_ 2 _ rfl;(with_reducible repeat (first|apply aj|apply au|apply ah));refine aX (cs:=#[.string ((aG zL zM).f0),.string (⟨#[]⟩ : ByteArray),.string (⟨#[]⟩ : ByteArray),.int .u8 0,.int .u16 0,.slice none 0 0]) ?_ 1 _ rfl;(with_reducible repeat (first|apply aj|apply au|apply ah));refine aX (cs:=#[.string (⟨#[]⟩ : ByteArray),.string (⟨#[]⟩ : ByteArray),.string (⟨#[]⟩ : ByteArray),.int .u8 0,.int .u16 0,.slice none 0 0]) ?_ 0 _ rfl;(with_reducible repeat (first|apply aj|apply au|apply ah));exact zN.out⟩,⟨by repeat (first|(with_reducible first|exact HB.out|apply aD|apply ak|apply aC|refine aA ?_ zV.out|refine aA ?_ z8.out)|exact HB.out)⟩⟩
      case rest =>
       clear JO
       try clear c1
       try clear c2
       try clear c2b0
       try clear c2b1
       try clear p2
       try clear q2
       try clear hx2
       try clear c7
       try clear c7b0
       try clear c8
       try clear c8b0
       try clear c12
       try clear c15
       try clear c17
       try clear c19
       try clear c20
       try clear GJ
       try clear GK
       try clear Gd
       try clear c23
       try clear Hr
       try clear Ht
       try clear Ce
       try clear Cg
       try clear AA
       try clear AB
       try clear AJ
       try clear AL
       try clear AO
       try clear AP
       try clear Cj
       try clear Ck
       try clear Cm
       try clear Cn
       try clear Co
       try clear Cq
       try clear A9
       try clear Bf
       try clear Bg
       try clear Bh
       try clear Bj
       try clear Bl
       try clear Cy
       try clear Cz
       try clear CB
       try clear CF
       try clear CG
       try clear CJ
       try clear CV
       try clear CW
       try clear CX
       try clear CY
       try clear CZ
       try clear C8
       try clear BP
       try clear BQ
       try clear BU
       try clear BZ
       try clear Ch
       try clear Ci
       try clear AQ
       try clear AU
       try clear AV
       try clear AX
       try clear AY
       try clear AZ
       try clear Cr
       try clear Ct
       try clear Cu
       try clear Cv
       try clear Cw
       try clear Cx
       try clear Bn
       try clear Bo
       try clear Bp
       try clear Bq
       try clear Br
       try clear Bt
       try clear CK
       try clear CO
       try clear CP
       try clear CQ
       try clear CS
       try clear CU
       try clear C9
       try clear Da
       try clear Db
       try clear Dc
       try clear Df
       try clear Dh
       try clear BR
       try clear BS
       try clear Ca
       try clear Cb
       try clear Al
       try clear Am
       try clear Ap
       try clear Aq
       try clear Ar
       try clear Av
       try clear p2
       try clear EC
       try clear ED
       obtain ⟨kq,EU,rfl,HA,FZ,zQ,zN,HB⟩:=hcut
       cases kq with
       | zero=>exact absurd HA.out (by simp [aI.j1])
       | succ Hu =>
        have H:=HA.out
        clear HA
        simp only [aI.j1] at H
        by_cases c28 : EU = true
        ·subst c28
         have H1 : (some 13) = some r:=by rw [if_pos rfl] at H;exact H
         clear H
         have H:=H1
         clear H1
         obtain rfl:=Option.some.inj H
         go_wp2
         repeat (go_quiet (fail);try go_wp2)
         go_ret
         exact ⟨by first|rfl|(simp [aY,aZ] <;> rfl)|(simp [*,aY,aZ] <;> rfl),by repeat (first|(with_reducible first|exact HB.out|apply aD|apply ak|apply aC|refine aA ?_ zV.out|refine aA ?_ z8.out)|exact HB.out)⟩
        ·replace c28:=Bool.eq_false_iff.mpr c28
         subst c28
         have H1 : (if zM > 0 then (if 0 ≤ (wrap64 (zM - 1)) then (if (wrap64 (zM - 1)) < (zL.length : Int) then (aI.j2 Hu zM (!(Op.bytesLess (((aG zL (wrap64 (zM - 1))).f0).toList) ((aG zL zM).f0).toList)) zU zL ((aG zL zM).f0) ((aG zL zM).f1) ((aG zL zM).f2) ((aG zL zM).f3) ((aG zL zM).f4) ((aG zL zM).f5)) else (none)) else (none)) else (aI.j2 Hu zM false zU zL ((aG zL zM).f0) ((aG zL zM).f1) ((aG zL zM).f2) ((aG zL zM).f3) ((aG zL zM).f4) ((aG zL zM).f5))) = some r:=by rw [if_neg (show ¬ (false = true) by decide)] at H;exact H
         clear H
         have H:=H1
         clear H1
         have GN:=Aside0.mk H
         clear H
         go_upto_region 9 with (fail)
         repeat (go_quiet (fail);go_upto_region 9 with (fail))
         go_cut [52] (fun v52 wc=>∃ (kq : Nat) (DJ : Bool),v52 = .bool DJ ∧ Aside0 (aI.j2 kq zM DJ zU zL ((aG zL zM).f0) ((aG zL zM).f1) ((aG zL zM).f2) ((aG zL zM).f3) ((aG zL zM).f4) ((aG zL zM).f5) = some r) ∧ Aside0 (kq ≤ Hu) ∧ Aside0 (wc.heap[zS]? = some (.cells #[.int .u64 zU,(.slice (some Ag) zL.length Ab)] 53 (0,0))) ∧ Aside0 (wc.heap[zO]? = some (.cells #[.string ((aG zL zM).f0),.string ((aG zL zM).f1),.string ((aG zL zM).f2),.int .u8 ((aG zL zM).f3),.int .u16 ((aG zL zM).f4),(.slice zZ ((aG zL zM).f5).length zY)] 103 (0,0))) ∧ Aside0 (Below w.heap.size w wc))
         case first =>
          have H:=GN.out
          clear GN
          by_cases F6 : zM > 0
          ·rw [if_pos F6] at H
           have c30b0 : decide (0 < zM) = true:=decide_eq_true F6
           clear F6
           (first|rw [c30b0]|(simp only [bI,bN];rw [c30b0])|skip)
           obtain ⟨Dj,EW⟩ : ∃ j_ : Int,(wrap64 (zM - 1)) = j_:=⟨_,rfl⟩
           replace H : (if 0 ≤ (Dj) then (if (Dj) < (zL.length : Int) then (aI.j2 Hu zM (!(Op.bytesLess (((aG zL (Dj)).f0).toList) ((aG zL zM).f0).toList)) zU zL ((aG zL zM).f0) ((aG zL zM).f1) ((aG zL zM).f2) ((aG zL zM).f3) ((aG zL zM).f4) ((aG zL zM).f5)) else (none)) else (none)) = some r:=by first|(rw [EW] at H;exact H)|(simp only [EW] at H ⊢;exact H)
           have hji31w : (IntKind.i64.wrap (zM - 1)) = Dj:=(bI _).trans EW
           by_cases c32 : 0 ≤ (Dj)
           ·rw [if_pos c32] at H
            have c32b0 : decide (0 ≤ (Dj)) = true:=decide_eq_true c32
            clear c32
            by_cases GL : (Dj) < (zL.length : Int)
            ·rw [if_pos GL] at H
             have c33b0 : decide ((Dj) < (zL.length : Int)) = true:=decide_eq_true GL
             clear GL
             have H':=Aside0.mk H
             clear H
             have J8:=zT.out
             have J9:=zP.out
             have Dk : wc.cell? ⟨zO,0,none⟩ = some (.string ((aG zL zM).f0)):=(ay zN.out 0).trans rfl
             have Dl : wc.cell? ⟨zO,1,none⟩ = some (.string ((aG zL zM).f1)):=(ay zN.out 1).trans rfl
             have Dm : wc.cell? ⟨zO,2,none⟩ = some (.string ((aG zL zM).f2)):=(ay zN.out 2).trans rfl
             have Dn : wc.cell? ⟨zO,3,none⟩ = some (.int .u8 ((aG zL zM).f3)):=(ay zN.out 3).trans rfl
             have Dp : wc.cell? ⟨zO,4,none⟩ = some (.int .u16 ((aG zL zM).f4)):=(ay zN.out 4).trans rfl
             have Dq : wc.cell? ⟨zO,5,none⟩ = some (.slice zZ ((aG zL zM).f5).length zY):=(ay zN.out 5).trans rfl
             have Dr:=av zN.out 0
             have Dt:=av zN.out 1
             have Du:=av zN.out 2
             have Dv:=av zN.out 3
             have Dw:=av zN.out 4
             have Dx:=av zN.out 5
             have Dy : wc.cell? ⟨zS,0,none⟩ = some (.int .u64 zU):=(ay zQ.out 0).trans rfl
             have Dz : wc.cell? ⟨zS,1,none⟩ = some (.slice (some Ag) zL.length Ab):=(ay zQ.out 1).trans rfl
             have DC:=av zQ.out 0
             have DF:=av zQ.out 1
             have EI : 0 ≤ ((Dj) : Int):=of_decide_eq_true (by first|(with_reducible assumption)|assumption)
             have EJ : (Dj) < (zL.length : Int):=of_decide_eq_true (by first|(with_reducible assumption)|assumption)
             obtain ⟨Hf,JU,JV,JW,Bu,Bv,Bw,Bz,BA,BF,EX,EY⟩:=mG Gx.out (Dj) EI EJ
             obtain rfl : Ag = Hf:=(by injection JW)
             replace Bu:=(HB.out.cell (World.block_lt_of_cell? w _ Bu)).trans Bu
             replace Bv:=(HB.out.cell (World.block_lt_of_cell? w _ Bv)).trans Bv
             replace Bw:=(HB.out.cell (World.block_lt_of_cell? w _ Bw)).trans Bw
             replace Bz:=(HB.out.cell (World.block_lt_of_cell? w _ Bz)).trans Bz
             replace BA:=(HB.out.cell (World.block_lt_of_cell? w _ BA)).trans BA
             replace BF:=(HB.out.cell (World.block_lt_of_cell? w _ BF)).trans BF
             have Hw:=Aside0.mk EY
             have Hy:=Aside0.mk EX
             clear EY EX
             replace EI:=eq_true EI
             replace EJ:=eq_true EJ
             go_wp2
             repeat (go_quiet (fail);try go_wp2)
             go_meet
             case rel=>exact ⟨_,(!(Op.bytesLess (((aG zL (Dj)).f0).toList) ((aG zL zM).f0).toList)),(by first|rfl|(simp;done)|(simp only [← EW] <;> (first|rfl|simp))|(simp [*];done)),H',⟨by have:=ER.out;have:=FZ.out;first|omega|exact Nat.le_refl _⟩,⟨by (with_reducible repeat (first|apply aj|apply au|apply ah));exact zQ.out⟩,⟨by (with_reducible repeat (first|apply aj|apply au|apply ah));exact zN.out⟩,⟨by repeat (first|(with_reducible first|exact HB.out|apply aD|apply ak|apply aC|refine aA ?_ zV.out|refine aA ?_ z8.out)|exact HB.out)⟩⟩
            ·rw [if_neg GL] at H
             exact absurd H (by simp)
           ·rw [if_neg c32] at H
            exact absurd H (by simp)
          ·rw [if_neg F6] at H
           have c30b0 : decide (0 < zM) = false:=decide_eq_false F6
           clear F6
           (first|rw [c30b0]|(simp only [bI,bN];rw [c30b0])|skip)
           have H':=Aside0.mk H
           clear H
           go_wp2
           repeat (go_quiet (fail);try go_wp2)
           go_meet
           case rel=>exact ⟨_,(false),(by first|rfl|(simp;done)|(simp [*];done)),H',⟨by have:=ER.out;have:=FZ.out;first|omega|exact Nat.le_refl _⟩,⟨by (with_reducible repeat (first|apply aj|apply au|apply ah));exact zQ.out⟩,⟨by (with_reducible repeat (first|apply aj|apply au|apply ah));exact zN.out⟩,⟨by repeat (first|(with_reducible first|exact HB.out|apply aD|apply ak|apply aC|refine aA ?_ zV.out|refine aA ?_ z8.out)|exact HB.out)⟩⟩
         case rest =>
          clear GN
          try clear c1
          try clear c2
          try clear c2b0
          try clear c2b1
          try clear p2
          try clear q2
          try clear hx2
          try clear c3
          try clear p6
          try clear c7
          try clear c7b0
          try clear c8
          try clear c8b0
          try clear c12
          try clear c15
          try clear c17
          try clear c19
          try clear c20
          try clear GJ
          try clear GK
          try clear Gd
          try clear c23
          try clear Hr
          try clear Ht
          try clear c28
          try clear F6
          try clear c30b0
          try clear c32
          try clear c32b0
          try clear GL
          try clear c33b0
          try clear c34
          try clear Ce
          try clear Cg
          try clear AA
          try clear AB
          try clear AJ
          try clear AL
          try clear AO
          try clear AP
          try clear Cj
          try clear Ck
          try clear Cm
          try clear Cn
          try clear Co
          try clear Cq
          try clear A9
          try clear Bf
          try clear Bg
          try clear Bh
          try clear Bj
          try clear Bl
          try clear Cy
          try clear Cz
          try clear CB
          try clear CF
          try clear CG
          try clear CJ
          try clear CV
          try clear CW
          try clear CX
          try clear CY
          try clear CZ
          try clear C8
          try clear Dk
          try clear Dl
          try clear Dm
          try clear Dn
          try clear Dp
          try clear Dq
          try clear Dy
          try clear Dz
          try clear BP
          try clear BQ
          try clear BU
          try clear BZ
          try clear Ch
          try clear Ci
          try clear AQ
          try clear AU
          try clear AV
          try clear AX
          try clear AY
          try clear AZ
          try clear Cr
          try clear Ct
          try clear Cu
          try clear Cv
          try clear Cw
          try clear Cx
          try clear Bn
          try clear Bo
          try clear Bp
          try clear Bq
          try clear Br
          try clear Bt
          try clear CK
          try clear CO
          try clear CP
          try clear CQ
          try clear CS
          try clear CU
          try clear C9
          try clear Da
          try clear Db
          try clear Dc
          try clear Df
          try clear Dh
          try clear Dr
          try clear Dt
          try clear Du
          try clear Dv
          try clear Dw
          try clear Dx
          try clear DC
          try clear DF
          try clear BR
          try clear BS
          try clear Ca
          try clear Cb
          try clear Al
          try clear Am
          try clear Ap
          try clear Aq
          try clear Ar
          try clear Av
          try clear Bu
          try clear Bv
          try clear Bw
          try clear Bz
          try clear BA
          try clear BF
          try clear p2
          try clear GJ
          try clear EC
          try clear EI
          try clear q2
          try clear GK
          try clear ED
          try clear EJ
          obtain ⟨kq,DJ,rfl,HA,DK,zQ,zN,HB⟩:=hcut
          cases kq with
          | zero=>exact absurd HA.out (by simp [aI.j2])
          | succ Gf =>
           have H:=HA.out
           clear HA
           simp only [aI.j2] at H
           by_cases c37 : DJ = true
           ·subst c37
            have H1 : (some 6) = some r:=by rw [if_pos rfl] at H;exact H
            clear H
            have H:=H1
            clear H1
            obtain rfl:=Option.some.inj H
            go_wp2
            repeat (go_quiet (fail);try go_wp2)
            go_ret
            exact ⟨by first|rfl|(simp [aY,aZ] <;> rfl)|(simp [*,aY,aZ] <;> rfl),by repeat (first|(with_reducible first|exact HB.out|apply aD|apply ak|apply aC|refine aA ?_ zV.out|refine aA ?_ z8.out)|exact HB.out)⟩
           ·replace c37:=Bool.eq_false_iff.mpr c37
            subst c37
            have H1 : (if ((aG zL zM).f3) > 2 then (aI.j3 Gf zM true zU zL ((aG zL zM).f0) ((aG zL zM).f1) ((aG zL zM).f2) ((aG zL zM).f3) ((aG zL zM).f4) ((aG zL zM).f5)) else (if ((aG zL zM).f4) = 0 then (aI.j3 Gf zM true zU zL ((aG zL zM).f0) ((aG zL zM).f1) ((aG zL zM).f2) ((aG zL zM).f3) ((aG zL zM).f4) ((aG zL zM).f5)) else (aI.j3 Gf zM (decide (((aG zL zM).f4) > 3600)) zU zL ((aG zL zM).f0) ((aG zL zM).f1) ((aG zL zM).f2) ((aG zL zM).f3) ((aG zL zM).f4) ((aG zL zM).f5)))) = some r:=by rw [if_neg (show ¬ (false = true) by decide)] at H;exact H
            clear H
            have H:=H1
            clear H1
            have GQ:=Aside0.mk H
            clear H
            go_upto_region 11 with (fail)
            repeat (go_quiet (fail);go_upto_region 11 with (fail))
            go_cut [65] (fun v65 wc=>∃ (kq : Nat) (DL : Bool),v65 = .bool DL ∧ Aside0 (aI.j3 kq zM DL zU zL ((aG zL zM).f0) ((aG zL zM).f1) ((aG zL zM).f2) ((aG zL zM).f3) ((aG zL zM).f4) ((aG zL zM).f5) = some r) ∧ Aside0 (kq ≤ Gf) ∧ Aside0 (wc.heap[zS]? = some (.cells #[.int .u64 zU,(.slice (some Ag) zL.length Ab)] 53 (0,0))) ∧ Aside0 (wc.heap[zO]? = some (.cells #[.string ((aG zL zM).f0),.string ((aG zL zM).f1),.string ((aG zL zM).f2),.int .u8 ((aG zL zM).f3),.int .u16 ((aG zL zM).f4),(.slice zZ ((aG zL zM).f5).length zY)] 103 (0,0))) ∧ Aside0 (Below w.heap.size w wc))
            case first =>
             have H:=GQ.out
             clear GQ
             by_cases Gg : ((aG zL zM).f3) > 2
             ·rw [if_pos Gg] at H
              have c39b0 : decide (2 < ((aG zL zM).f3)) = true:=decide_eq_true Gg
              clear Gg
              (first|rw [c39b0]|(simp only [bI,bN];rw [c39b0])|skip)
              have H':=Aside0.mk H
              clear H
              have Ka:=zT.out
              have Ke:=zP.out
              have DN : wc.cell? ⟨zO,0,none⟩ = some (.string ((aG zL zM).f0)):=(ay zN.out 0).trans rfl
              have DR : wc.cell? ⟨zO,1,none⟩ = some (.string ((aG zL zM).f1)):=(ay zN.out 1).trans rfl
              have DT : wc.cell? ⟨zO,2,none⟩ = some (.string ((aG zL zM).f2)):=(ay zN.out 2).trans rfl
              have DU : wc.cell? ⟨zO,3,none⟩ = some (.int .u8 ((aG zL zM).f3)):=(ay zN.out 3).trans rfl
              have DV : wc.cell? ⟨zO,4,none⟩ = some (.int .u16 ((aG zL zM).f4)):=(ay zN.out 4).trans rfl
              have DW : wc.cell? ⟨zO,5,none⟩ = some (.slice zZ ((aG zL zM).f5).length zY):=(ay zN.out 5).trans rfl
              have DX:=av zN.out 0
              have DY:=av zN.out 1
              have DZ:=av zN.out 2
              have D5:=av zN.out 3
              have D6:=av zN.out 4
              have D7:=av zN.out 5
              go_wp2
              repeat (go_quiet (fail);try go_wp2)
              go_meet
              case rel=>exact ⟨_,(true),(by first|rfl|(simp;done)|(simp [*];done)),H',⟨by have:=ER.out;have:=FZ.out;have:=DK.out;first|omega|exact Nat.le_refl _⟩,⟨by (with_reducible repeat (first|apply aj|apply au|apply ah));exact zQ.out⟩,⟨by (with_reducible repeat (first|apply aj|apply au|apply ah));exact zN.out⟩,⟨by repeat (first|(with_reducible first|exact HB.out|apply aD|apply ak|apply aC|refine aA ?_ zV.out|refine aA ?_ z8.out)|exact HB.out)⟩⟩
             ·rw [if_neg Gg] at H
              have c39b0 : decide (2 < ((aG zL zM).f3)) = false:=decide_eq_false Gg
              clear Gg
              (first|rw [c39b0]|(simp only [bI,bN];rw [c39b0])|skip)
              by_cases F7 : ((aG zL zM).f4) = 0
              ·rw [if_pos F7] at H
               have c42b0 : (((aG zL zM).f4) == 0) = true:=beq_iff_eq.mpr F7
               have c42b1 : (((aG zL zM).f4) != 0) = false:=bne_eq_false_iff_eq.mpr F7
               clear F7
               have H':=Aside0.mk H
               clear H
               have Kg:=zT.out
               have Kh:=zP.out
               have D8 : wc.cell? ⟨zO,0,none⟩ = some (.string ((aG zL zM).f0)):=(ay zN.out 0).trans rfl
               have D9 : wc.cell? ⟨zO,1,none⟩ = some (.string ((aG zL zM).f1)):=(ay zN.out 1).trans rfl
               have Ea : wc.cell? ⟨zO,2,none⟩ = some (.string ((aG zL zM).f2)):=(ay zN.out 2).trans rfl
               have Eb : wc.cell? ⟨zO,3,none⟩ = some (.int .u8 ((aG zL zM).f3)):=(ay zN.out 3).trans rfl
               have Ec : wc.cell? ⟨zO,4,none⟩ = some (.int .u16 ((aG zL zM).f4)):=(ay zN.out 4).trans rfl
               have Ed : wc.cell? ⟨zO,5,none⟩ = some (.slice zZ ((aG zL zM).f5).length zY):=(ay zN.out 5).trans rfl
               have Ee:=av zN.out 0
               have Ef:=av zN.out 1
               have Eh:=av zN.out 2
               have Ei:=av zN.out 3
               have Ej:=av zN.out 4
               have El:=av zN.out 5
               go_wp2
               repeat (go_quiet (fail);try go_wp2)
               go_meet
               case rel=>exact ⟨_,(true),(by first|rfl|(simp;done)|(simp [*];done)),H',⟨by have:=ER.out;have:=FZ.out;have:=DK.out;first|omega|exact Nat.le_refl _⟩,⟨by (with_reducible repeat (first|apply aj|apply au|apply ah));exact zQ.out⟩,⟨by (with_reducible repeat (first|apply aj|apply au|apply ah));exact zN.out⟩,⟨by repeat (first|(with_reducible first|exact HB.out|apply aD|apply ak|apply aC|refine aA ?_ zV.out|refine aA ?_ z8.out)|exact HB.out)⟩⟩
              ·rw [if_neg F7] at H
               have c42b0 : (((aG zL zM).f4) == 0) = false:=beq_eq_false_iff_ne.mpr F7
               have c42b1 : (((aG zL zM).f4) != 0) = true:=bne_iff_ne.mpr F7
               have H':=Aside0.mk H
               clear H
               have Ki:=zT.out
               have Kj:=zP.out
               have Em : wc.cell? ⟨zO,0,none⟩ = some (.string ((aG zL zM).f0)):=(ay zN.out 0).trans rfl
               have En : wc.cell? ⟨zO,1,none⟩ = some (.string ((aG zL zM).f1)):=(ay zN.out 1).trans rfl
               have Eo : wc.cell? ⟨zO,2,none⟩ = some (.string ((aG zL zM).f2)):=(ay zN.out 2).trans rfl
               have Ep : wc.cell? ⟨zO,3,none⟩ = some (.int .u8 ((aG zL zM).f3)):=(ay zN.out 3).trans rfl
               have Er : wc.cell? ⟨zO,4,none⟩ = some (.int .u16 ((aG zL zM).f4)):=(ay zN.out 4).trans rfl
               have Es : wc.cell? ⟨zO,5,none⟩ = some (.slice zZ ((aG zL zM).f5).length zY):=(ay zN.out 5).trans rfl
               have Et:=av zN.out 0
               have Eu:=av zN.out 1
               have Ew:=av zN.out 2
               have Ey:=av zN.out 3
               have Ez:=av zN.out 4
               have EA:=av zN.out 5
               go_wp2
               repeat (go_quiet (fail);try go_wp2)
               go_meet
               case rel=>exact ⟨_,(decide (((aG zL zM).f4) > 3600)),(by first|rfl|(simp;done)|(simp [*];done)),H',⟨by have:=ER.out;have:=FZ.out;have:=DK.out;first|omega|exact Nat.le_refl _⟩,⟨by (with_reducible repeat (first|apply aj|apply au|apply ah));exact zQ.out⟩,⟨by (with_reducible repeat (first|apply aj|apply au|apply ah));exact zN.out⟩,⟨by repeat (first|(with_reducible first|exact HB.out|apply aD|apply ak|apply aC|refine aA ?_ zV.out|refine aA ?_ z8.out)|exact HB.out)⟩⟩
            case rest =>
             clear GQ
             try clear c1
             try clear c2
             try clear c2b0
             try clear c2b1
             try clear p2
             try clear q2
             try clear hx2
             try clear c3
             try clear c4
             try clear p6
             try clear c7
             try clear c7b0
             try clear c8
             try clear c8b0
             try clear c12
             try clear c15
             try clear c17
             try clear c19
             try clear c20
             try clear GJ
             try clear GK
             try clear Gd
             try clear c23
             try clear Hr
             try clear Ht
             try clear c28
             try clear F6
             try clear c30b0
             try clear c32
             try clear c32b0
             try clear GL
             try clear c33b0
             try clear c34
             try clear c37
             try clear Gg
             try clear c39b0
             try clear c40
             try clear F7
             try clear c42b0
             try clear c42b1
             try clear Kk
             try clear Kl
             try clear Ce
             try clear Cg
             try clear AA
             try clear AB
             try clear AJ
             try clear AL
             try clear AO
             try clear AP
             try clear Cj
             try clear Ck
             try clear Cm
             try clear Cn
             try clear Co
             try clear Cq
             try clear A9
             try clear Bf
             try clear Bg
             try clear Bh
             try clear Bj
             try clear Bl
             try clear Cy
             try clear Cz
             try clear CB
             try clear CF
             try clear CG
             try clear CJ
             try clear CV
             try clear CW
             try clear CX
             try clear CY
             try clear CZ
             try clear C8
             try clear Dk
             try clear Dl
             try clear Dm
             try clear Dn
             try clear Dp
             try clear Dq
             try clear Dy
             try clear Dz
             try clear DN
             try clear DR
             try clear DT
             try clear DU
             try clear DV
             try clear DW
             try clear D8
             try clear D9
             try clear Ea
             try clear Eb
             try clear Ec
             try clear Ed
             try clear Em
             try clear En
             try clear Eo
             try clear Ep
             try clear Er
             try clear Es
             try clear BP
             try clear BQ
             try clear BU
             try clear BZ
             try clear Ch
             try clear Ci
             try clear AQ
             try clear AU
             try clear AV
             try clear AX
             try clear AY
             try clear AZ
             try clear Cr
             try clear Ct
             try clear Cu
             try clear Cv
             try clear Cw
             try clear Cx
             try clear Bn
             try clear Bo
             try clear Bp
             try clear Bq
             try clear Br
             try clear Bt
             try clear CK
             try clear CO
             try clear CP
             try clear CQ
             try clear CS
             try clear CU
             try clear C9
             try clear Da
             try clear Db
             try clear Dc
             try clear Df
             try clear Dh
             try clear Dr
             try clear Dt
             try clear Du
             try clear Dv
             try clear Dw
             try clear Dx
             try clear DC
             try clear DF
             try clear DX
             try clear DY
             try clear DZ
             try clear D5
             try clear D6
             try clear D7
             try clear Ee
             try clear Ef
             try clear Eh
             try clear Ei
             try clear Ej
             try clear El
             try clear Et
             try clear Eu
             try clear Ew
             try clear Ey
             try clear Ez
             try clear EA
             try clear BR
             try clear BS
             try clear Ca
             try clear Cb
             try clear Al
             try clear Am
             try clear Ap
             try clear Aq
             try clear Ar
             try clear Av
             try clear Bu
             try clear Bv
             try clear Bw
             try clear Bz
             try clear BA
             try clear BF
             try clear p2
             try clear GJ
             try clear EC
             try clear EI
             try clear p6
             try clear q2
             try clear GK
             try clear ED
             try clear EJ
             obtain ⟨kq,DL,rfl,HA,FY,zQ,zN,HB⟩:=hcut
             cases kq with
             | zero=>exact absurd HA.out (by simp [aI.j3])
             | succ GR =>
              have H:=HA.out
              clear HA
              simp only [aI.j3] at H
              by_cases GY : DL = true
              ·subst GY
               have H1 : (some 7) = some r:=by rw [if_pos rfl] at H;exact H
               clear H
               have H:=H1
               clear H1
               obtain rfl:=Option.some.inj H
               go_wp2
               repeat (go_quiet (fail);try go_wp2)
               go_ret
               exact ⟨by first|rfl|(simp [aY,aZ] <;> rfl)|(simp [*,aY,aZ] <;> rfl),by repeat (first|(with_reducible first|exact HB.out|apply aD|apply ak|apply aC|refine aA ?_ zV.out|refine aA ?_ z8.out)|exact HB.out)⟩
              ·replace GY:=Bool.eq_false_iff.mpr GY
               subst GY
               have H1 : (if (((aG zL zM).f5).length : Int) = 0 then (some 16) else (if (((aG zL zM).f5).length : Int) > 16 then (some 18) else (aI.l1 GR zM 0 zU zL ((aG zL zM).f0) ((aG zL zM).f1) ((aG zL zM).f2) ((aG zL zM).f3) ((aG zL zM).f4) ((aG zL zM).f5)))) = some r:=by rw [if_neg (show ¬ (false = true) by decide)] at H;exact H
               clear H
               have H:=H1
               clear H1
               by_cases F8 : (((aG zL zM).f5).length : Int) = 0
               ·rw [if_pos F8] at H
                have c48b0 : ((((aG zL zM).f5).length : Int) == 0) = true:=beq_iff_eq.mpr F8
                have c48b1 : ((((aG zL zM).f5).length : Int) != 0) = false:=bne_eq_false_iff_eq.mpr F8
                clear F8
                obtain rfl:=Option.some.inj H
                have Km:=zT.out
                have Kn:=zP.out
                have EZ : wc.cell? ⟨zO,0,none⟩ = some (.string ((aG zL zM).f0)):=(ay zN.out 0).trans rfl
                have E5 : wc.cell? ⟨zO,1,none⟩ = some (.string ((aG zL zM).f1)):=(ay zN.out 1).trans rfl
                have E8 : wc.cell? ⟨zO,2,none⟩ = some (.string ((aG zL zM).f2)):=(ay zN.out 2).trans rfl
                have E9 : wc.cell? ⟨zO,3,none⟩ = some (.int .u8 ((aG zL zM).f3)):=(ay zN.out 3).trans rfl
                have Fa : wc.cell? ⟨zO,4,none⟩ = some (.int .u16 ((aG zL zM).f4)):=(ay zN.out 4).trans rfl
                have Fb : wc.cell? ⟨zO,5,none⟩ = some (.slice zZ ((aG zL zM).f5).length zY):=(ay zN.out 5).trans rfl
                have Fe:=av zN.out 0
                have Fg:=av zN.out 1
                have Fh:=av zN.out 2
                have Fj:=av zN.out 3
                have Fp:=av zN.out 4
                have Fq:=av zN.out 5
                go_wp2
                repeat (go_quiet (fail);try go_wp2)
                go_ret
                exact ⟨by first|rfl|(simp [aY,aZ] <;> rfl)|(simp [*,aY,aZ] <;> rfl),by repeat (first|(with_reducible first|exact HB.out|apply aD|apply ak|apply aC|refine aA ?_ zV.out|refine aA ?_ z8.out)|exact HB.out)⟩
               ·rw [if_neg F8] at H
                have c48b0 : ((((aG zL zM).f5).length : Int) == 0) = false:=beq_eq_false_iff_ne.mpr F8
                have c48b1 : ((((aG zL zM).f5).length : Int) != 0) = true:=bne_iff_ne.mpr F8
                have c48b2 : ¬ (((aG zL zM).f5) = []):=fun h_=>F8 (by rw [h_];rfl)
                by_cases c51 : (((aG zL zM).f5).length : Int) > 16
                ·rw [if_pos c51] at H
                 have c51b0 : decide (16 < (((aG zL zM).f5).length : Int)) = true:=decide_eq_true c51
                 have c51b1 : decide (16 < ((aG zL zM).f5).length) = true:=decide_eq_true (by omega)
                 clear c51
                 obtain rfl:=Option.some.inj H
                 have Ko:=zT.out
                 have Kq:=zP.out
                 have Fu : wc.cell? ⟨zO,0,none⟩ = some (.string ((aG zL zM).f0)):=(ay zN.out 0).trans rfl
                 have Fv : wc.cell? ⟨zO,1,none⟩ = some (.string ((aG zL zM).f1)):=(ay zN.out 1).trans rfl
                 have Fw : wc.cell? ⟨zO,2,none⟩ = some (.string ((aG zL zM).f2)):=(ay zN.out 2).trans rfl
                 have Fx : wc.cell? ⟨zO,3,none⟩ = some (.int .u8 ((aG zL zM).f3)):=(ay zN.out 3).trans rfl
                 have Fy : wc.cell? ⟨zO,4,none⟩ = some (.int .u16 ((aG zL zM).f4)):=(ay zN.out 4).trans rfl
                 have Fz : wc.cell? ⟨zO,5,none⟩ = some (.slice zZ ((aG zL zM).f5).length zY):=(ay zN.out 5).trans rfl
                 have FB:=av zN.out 0
                 have FC:=av zN.out 1
                 have FD:=av zN.out 2
                 have FE:=av zN.out 3
                 have FH:=av zN.out 4
                 have FI:=av zN.out 5
                 go_wp2
                 repeat (go_quiet (fail);try go_wp2)
                 go_ret
                 exact ⟨by first|rfl|(simp [aY,aZ] <;> rfl)|(simp [*,aY,aZ] <;> rfl),by repeat (first|(with_reducible first|exact HB.out|apply aD|apply ak|apply aC|refine aA ?_ zV.out|refine aA ?_ z8.out)|exact HB.out)⟩
                ·rw [if_neg c51] at H
                 have c51b0 : decide (16 < (((aG zL zM).f5).length : Int)) = false:=decide_eq_false c51
                 have c51b1 : decide (16 < ((aG zL zM).f5).length) = false:=decide_eq_false (by omega)
                 clear c51
                 have H':=Aside0.mk H
                 clear H
                 have Kr:=zT.out
                 have Kt:=zP.out
                 have FJ : wc.cell? ⟨zO,0,none⟩ = some (.string ((aG zL zM).f0)):=(ay zN.out 0).trans rfl
                 have FL : wc.cell? ⟨zO,1,none⟩ = some (.string ((aG zL zM).f1)):=(ay zN.out 1).trans rfl
                 have FM : wc.cell? ⟨zO,2,none⟩ = some (.string ((aG zL zM).f2)):=(ay zN.out 2).trans rfl
                 have FN : wc.cell? ⟨zO,3,none⟩ = some (.int .u8 ((aG zL zM).f3)):=(ay zN.out 3).trans rfl
                 have FP : wc.cell? ⟨zO,4,none⟩ = some (.int .u16 ((aG zL zM).f4)):=(ay zN.out 4).trans rfl
                 have FQ : wc.cell? ⟨zO,5,none⟩ = some (.slice zZ ((aG zL zM).f5).length zY):=(ay zN.out 5).trans rfl
                 have FR:=av zN.out 0
                 have FT:=av zN.out 1
                 have FU:=av zN.out 2
                 have FV:=av zN.out 3
                 have FW:=av zN.out 4
                 have FX:=av zN.out 5
                 go_wp2
                 repeat (go_quiet (fail);try go_wp2)
                 go_loopg [5] GR (fun kq v5 w'=>∃ (zW : Int),v5 = .int .i64 zW ∧ Aside0 (aI.l1 kq zM zW zU zL ((aG zL zM).f0) ((aG zL zM).f1) ((aG zL zM).f2) ((aG zL zM).f3) ((aG zL zM).f4) ((aG zL zM).f5) = some r) ∧ Aside0 (kq ≤ GR) ∧ Aside0 (w'.heap[zS]? = some (.cells #[.int .u64 zU,(.slice (some Ag) zL.length Ab)] 53 (0,0))) ∧ Aside0 (w'.heap[zO]? = some (.cells #[.string ((aG zL zM).f0),.string ((aG zL zM).f1),.string ((aG zL zM).f2),.int .u8 ((aG zL zM).f3),.int .u16 ((aG zL zM).f4),(.slice zZ ((aG zL zM).f5).length zY)] 103 (0,0))) ∧ Aside0 (Below w.heap.size w w'))
                 case atStart=>exact ⟨(0),(by first|rfl|(simp;done)|(simp [*];done)),H',⟨Nat.le_refl _⟩,⟨by (with_reducible repeat (first|apply aj|apply au|apply ah));exact zQ.out⟩,⟨by (with_reducible repeat (first|apply aj|apply au|apply ah));exact zN.out⟩,⟨by repeat (first|(with_reducible first|exact HB.out|apply aD|apply ak|apply aC|refine aA ?_ zV.out|refine aA ?_ z8.out)|exact HB.out)⟩⟩
                 case round =>
                  clear H'
                  try clear c1
                  try clear c2
                  try clear c2b0
                  try clear c2b1
                  try clear p2
                  try clear q2
                  try clear hx2
                  try clear c3
                  try clear c4
                  try clear c5
                  try clear p6
                  try clear c7
                  try clear c7b0
                  try clear c8
                  try clear c8b0
                  try clear c12
                  try clear c15
                  try clear c17
                  try clear c19
                  try clear c20
                  try clear GJ
                  try clear GK
                  try clear Gd
                  try clear c23
                  try clear Hr
                  try clear Ht
                  try clear c28
                  try clear F6
                  try clear c30b0
                  try clear c32
                  try clear c32b0
                  try clear GL
                  try clear c33b0
                  try clear c34
                  try clear c37
                  try clear Gg
                  try clear c39b0
                  try clear c40
                  try clear F7
                  try clear c42b0
                  try clear c42b1
                  try clear Kk
                  try clear Kl
                  try clear GY
                  try clear F8
                  try clear c48b0
                  try clear c48b1
                  try clear c48b2
                  try clear c49
                  try clear c51
                  try clear c51b0
                  try clear c51b1
                  try clear KO
                  try clear KP
                  try clear Ce
                  try clear Cg
                  try clear AA
                  try clear AB
                  try clear AJ
                  try clear AL
                  try clear AO
                  try clear AP
                  try clear Cj
                  try clear Ck
                  try clear Cm
                  try clear Cn
                  try clear Co
                  try clear Cq
                  try clear A9
                  try clear Bf
                  try clear Bg
                  try clear Bh
                  try clear Bj
                  try clear Bl
                  try clear Cy
                  try clear Cz
                  try clear CB
                  try clear CF
                  try clear CG
                  try clear CJ
                  try clear CV
                  try clear CW
                  try clear CX
                  try clear CY
                  try clear CZ
                  try clear C8
                  try clear Dk
                  try clear Dl
                  try clear Dm
                  try clear Dn
                  try clear Dp
                  try clear Dq
                  try clear Dy
                  try clear Dz
                  try clear DN
                  try clear DR
                  try clear DT
                  try clear DU
                  try clear DV
                  try clear DW
                  try clear D8
                  try clear D9
                  try clear Ea
                  try clear Eb
                  try clear Ec
                  try clear Ed
                  try clear Em
                  try clear En
                  try clear Eo
                  try clear Ep
                  try clear Er
                  try clear Es
                  try clear BP
                  try clear BQ
                  try clear EZ
                  try clear E5
                  try clear E8
                  try clear E9
                  try clear Fa
                  try clear Fb
                  try clear Fu
                  try clear Fv
                  try clear Fw
                  try clear Fx
                  try clear Fy
                  try clear Fz
                  try clear FJ
                  try clear FL
                  try clear FM
                  try clear FN
                  try clear FP
                  try clear FQ
                  try clear BU
                  try clear BZ
                  try clear Ch
                  try clear Ci
                  try clear AQ
                  try clear AU
                  try clear AV
                  try clear AX
                  try clear AY
                  try clear AZ
                  try clear Cr
                  try clear Ct
                  try clear Cu
                  try clear Cv
                  try clear Cw
                  try clear Cx
                  try clear Bn
                  try clear Bo
                  try clear Bp
                  try clear Bq
                  try clear Br
                  try clear Bt
                  try clear CK
                  try clear CO
                  try clear CP
                  try clear CQ
                  try clear CS
                  try clear CU
                  try clear C9
                  try clear Da
                  try clear Db
                  try clear Dc
                  try clear Df
                  try clear Dh
                  try clear Dr
                  try clear Dt
                  try clear Du
                  try clear Dv
                  try clear Dw
                  try clear Dx
                  try clear DC
                  try clear DF
                  try clear DX
                  try clear DY
                  try clear DZ
                  try clear D5
                  try clear D6
                  try clear D7
                  try clear Ee
                  try clear Ef
                  try clear Eh
                  try clear Ei
                  try clear Ej
                  try clear El
                  try clear Et
                  try clear Eu
                  try clear Ew
                  try clear Ey
                  try clear Ez
                  try clear EA
                  try clear BR
                  try clear BS
                  try clear Fe
                  try clear Fg
                  try clear Fh
                  try clear Fj
                  try clear Fp
                  try clear Fq
                  try clear FB
                  try clear FC
                  try clear FD
                  try clear FE
                  try clear FH
                  try clear FI
                  try clear FR
                  try clear FT
                  try clear FU
                  try clear FV
                  try clear FW
                  try clear FX
                  try clear Ca
                  try clear Cb
                  try clear Al
                  try clear Am
                  try clear Ap
                  try clear Aq
                  try clear Ar
                  try clear Av
                  try clear Bu
                  try clear Bv
                  try clear Bw
                  try clear Bz
                  try clear BA
                  try clear BF
                  try clear p2
                  try clear GJ
                  try clear EC
                  try clear EI
                  try clear p6
                  try clear q2
                  try clear GK
                  try clear ED
                  try clear EJ
                  obtain ⟨zW,rfl,HA,GZ,zQ,zN,HB⟩:=hrel
                  cases gk with
                  | zero=>exact absurd HA.out (by simp [aI.l1])
                  | succ k5 =>
                   have H:=HA.out
                   clear HA
                   simp only [aI.l1] at H
                   by_cases GU : zW < (((aG zL zM).f5).length : Int)
                   ·rw [if_pos GU] at H
                    have c56b0 : decide (zW < (((aG zL zM).f5).length : Int)) = true:=decide_eq_true GU
                    clear GU
                    by_cases Hg : 0 ≤ zW
                    ·rw [if_pos Hg] at H
                     have c57b0 : decide (0 ≤ zW) = true:=decide_eq_true Hg
                     clear Hg
                     replace H:=Option.bind_eq_some_iff.mp H
                     obtain ⟨Ga,Hl,H⟩:=H
                     replace H : (if Ga = true then (aI.l2 k5 zM zW 0 zU zL ((aG zL zM).f0) ((aG zL zM).f1) ((aG zL zM).f2) ((aG zL zM).f3) ((aG zL zM).f4) ((aG zL zM).f5)) else (some 13)) = some r:=H
                     have G5:=Aside0.mk Hl
                     clear Hl
                     by_cases c59 : Ga = true
                     ·subst c59
                      have H1 : (aI.l2 k5 zM zW 0 zU zL ((aG zL zM).f0) ((aG zL zM).f1) ((aG zL zM).f2) ((aG zL zM).f3) ((aG zL zM).f4) ((aG zL zM).f5)) = some r:=by rw [if_pos rfl] at H;exact H
                      clear H
                      have H:=H1
                      clear H1
                      have H':=Aside0.mk H
                      clear H
                      have Ku:=zT.out
                      have Kv:=zP.out
                      have Gh : wr.cell? ⟨zO,0,none⟩ = some (.string ((aG zL zM).f0)):=(ay zN.out 0).trans rfl
                      have Gi : wr.cell? ⟨zO,1,none⟩ = some (.string ((aG zL zM).f1)):=(ay zN.out 1).trans rfl
                      have Gj : wr.cell? ⟨zO,2,none⟩ = some (.string ((aG zL zM).f2)):=(ay zN.out 2).trans rfl
                      have Gl : wr.cell? ⟨zO,3,none⟩ = some (.int .u8 ((aG zL zM).f3)):=(ay zN.out 3).trans rfl
                      have Gm : wr.cell? ⟨zO,4,none⟩ = some (.int .u16 ((aG zL zM).f4)):=(ay zN.out 4).trans rfl
                      have Gn : wr.cell? ⟨zO,5,none⟩ = some (.slice zZ ((aG zL zM).f5).length zY):=(ay zN.out 5).trans rfl
                      have Gp:=av zN.out 0
                      have Gq:=av zN.out 1
                      have Gr:=av zN.out 2
                      have Gs:=av zN.out 3
                      have Gt:=av zN.out 4
                      have Gu:=av zN.out 5
                      have EF : 0 ≤ (zW : Int):=of_decide_eq_true (by first|(with_reducible assumption)|assumption)
                      have EG : zW < (((aG zL zM).f5).length : Int):=of_decide_eq_true (by first|(with_reducible assumption)|assumption)
                      obtain ⟨BN,e206,Ay,Az⟩:=iJ Aw.out zW EF EG
                      cases e206
                      replace Ay:=(HB.out.cell (World.block_lt_of_cell? w _ Ay)).trans Ay
                      replace Az:=(HB.out.cell (World.block_lt_of_cell? w _ Az)).trans Az
                      replace EF:=eq_true EF
                      replace EG:=eq_true EG
                      go_wp2_with (first|(go_at_call 54;(with_reducible refine (bG.calls k5 ((d9 ((aG zL zM).f5) zW).f0) true _ G5.out).mono ?_);rintro e w' ⟨rfl,⟨nd,rfl⟩⟩;(try first|exact ⟨rfl,_,World.drewN_drewN _ _ _⟩|exact ⟨rfl,_,Eq.trans (World.drewN_drewN _ _ _) (congrArg (World.drewN _) (Nat.add_assoc _ _ _))⟩)))
                      repeat (go_quiet (first|(go_at_call 54;(with_reducible refine (bG.calls k5 ((d9 ((aG zL zM).f5) zW).f0) true _ G5.out).mono ?_);rintro e w' ⟨rfl,⟨nd,rfl⟩⟩;(try first|exact ⟨rfl,_,World.drewN_drewN _ _ _⟩|exact ⟨rfl,_,Eq.trans (World.drewN_drewN _ _ _) (congrArg (World.drewN _) (Nat.add_assoc _ _ _))⟩)));try go_wp2_with (first|(go_at_call 54;(with_reducible refine (bG.calls k5 ((d9 ((aG zL zM).f5) zW).f0) true _ G5.out).mono ?_);rintro e w' ⟨rfl,⟨nd,rfl⟩⟩;(try first|exact ⟨rfl,_,World.drewN_drewN _ _ _⟩|exact ⟨rfl,_,Eq.trans (World.drewN_drewN _ _ _) (congrArg (World.drewN _) (Nat.add_assoc _ _ _))⟩))))
                      go_loopg [6] k5 (fun kq v6 w'=>∃ (Ah : Int),v6 = .int .i64 Ah ∧ Aside0 (aI.l2 kq zM zW Ah zU zL ((aG zL zM).f0) ((aG zL zM).f1) ((aG zL zM).f2) ((aG zL zM).f3) ((aG zL zM).f4) ((aG zL zM).f5) = some r) ∧ Aside0 (kq ≤ k5) ∧ Aside0 (w'.heap[zS]? = some (.cells #[.int .u64 zU,(.slice (some Ag) zL.length Ab)] 53 (0,0))) ∧ Aside0 (w'.heap[zO]? = some (.cells #[.string ((aG zL zM).f0),.string ((aG zL zM).f1),.string ((aG zL zM).f2),.int .u8 ((aG zL zM).f3),.int .u16 ((aG zL zM).f4),(.slice (some BN) ((aG zL zM).f5).length zY)] 103 (0,0))) ∧ Aside0 (Below w.heap.size w w'))
                      case atStart=>exact ⟨(0),(by first|rfl|(simp;done)|(simp [*];done)),H',⟨Nat.le_refl _⟩,⟨by (with_reducible repeat (first|apply aj|apply au|apply ah));exact zQ.out⟩,⟨by (with_reducible repeat (first|apply aj|apply au|apply ah));exact zN.out⟩,⟨by repeat (first|(with_reducible first|exact HB.out|apply aD|apply ak|apply aC|refine aA ?_ zV.out|refine aA ?_ z8.out)|exact HB.out)⟩⟩
                      case round =>
                       clear H'
                       try clear c1
                       try clear c2
                       try clear c2b0
                       try clear c2b1
                       try clear p2
                       try clear q2
                       try clear hx2
                       try clear c3
                       try clear c4
                       try clear c5
                       try clear c6
                       try clear p6
                       try clear c7
                       try clear c7b0
                       try clear c8
                       try clear c8b0
                       try clear c12
                       try clear c15
                       try clear c17
                       try clear c19
                       try clear c20
                       try clear GJ
                       try clear GK
                       try clear Gd
                       try clear c23
                       try clear Hr
                       try clear Ht
                       try clear c28
                       try clear F6
                       try clear c30b0
                       try clear c32
                       try clear c32b0
                       try clear GL
                       try clear c33b0
                       try clear c34
                       try clear c37
                       try clear Gg
                       try clear c39b0
                       try clear c40
                       try clear F7
                       try clear c42b0
                       try clear c42b1
                       try clear Kk
                       try clear Kl
                       try clear GY
                       try clear F8
                       try clear c48b0
                       try clear c48b1
                       try clear c48b2
                       try clear c49
                       try clear c51
                       try clear c51b0
                       try clear c51b1
                       try clear KO
                       try clear KP
                       try clear GU
                       try clear c56b0
                       try clear Hg
                       try clear c57b0
                       try clear c59
                       try clear KQ
                       try clear Ce
                       try clear Cg
                       try clear AA
                       try clear AB
                       try clear AJ
                       try clear AL
                       try clear AO
                       try clear AP
                       try clear Cj
                       try clear Ck
                       try clear Cm
                       try clear Cn
                       try clear Co
                       try clear Cq
                       try clear A9
                       try clear Bf
                       try clear Bg
                       try clear Bh
                       try clear Bj
                       try clear Bl
                       try clear Cy
                       try clear Cz
                       try clear CB
                       try clear CF
                       try clear CG
                       try clear CJ
                       try clear CV
                       try clear CW
                       try clear CX
                       try clear CY
                       try clear CZ
                       try clear C8
                       try clear Dk
                       try clear Dl
                       try clear Dm
                       try clear Dn
                       try clear Dp
                       try clear Dq
                       try clear Dy
                       try clear Dz
                       try clear DN
                       try clear DR
                       try clear DT
                       try clear DU
                       try clear DV
                       try clear DW
                       try clear D8
                       try clear D9
                       try clear Ea
                       try clear Eb
                       try clear Ec
                       try clear Ed
                       try clear Em
                       try clear En
                       try clear Eo
                       try clear Ep
                       try clear Er
                       try clear Es
                       try clear BP
                       try clear BQ
                       try clear EZ
                       try clear E5
                       try clear E8
                       try clear E9
                       try clear Fa
                       try clear Fb
                       try clear Fu
                       try clear Fv
                       try clear Fw
                       try clear Fx
                       try clear Fy
                       try clear Fz
                       try clear FJ
                       try clear FL
                       try clear FM
                       try clear FN
                       try clear FP
                       try clear FQ
                       try clear Gh
                       try clear Gi
                       try clear Gj
                       try clear Gl
                       try clear Gm
                       try clear Gn
                       try clear BU
                       try clear BZ
                       try clear Ch
                       try clear Ci
                       try clear AQ
                       try clear AU
                       try clear AV
                       try clear AX
                       try clear AY
                       try clear AZ
                       try clear Cr
                       try clear Ct
                       try clear Cu
                       try clear Cv
                       try clear Cw
                       try clear Cx
                       try clear Bn
                       try clear Bo
                       try clear Bp
                       try clear Bq
                       try clear Br
                       try clear Bt
                       try clear CK
                       try clear CO
                       try clear CP
                       try clear CQ
                       try clear CS
                       try clear CU
                       try clear C9
                       try clear Da
                       try clear Db
                       try clear Dc
                       try clear Df
                       try clear Dh
                       try clear Dr
                       try clear Dt
                       try clear Du
                       try clear Dv
                       try clear Dw
                       try clear Dx
                       try clear DC
                       try clear DF
                       try clear DX
                       try clear DY
                       try clear DZ
                       try clear D5
                       try clear D6
                       try clear D7
                       try clear Ee
                       try clear Ef
                       try clear Eh
                       try clear Ei
                       try clear Ej
                       try clear El
                       try clear Et
                       try clear Eu
                       try clear Ew
                       try clear Ey
                       try clear Ez
                       try clear EA
                       try clear BR
                       try clear BS
                       try clear Fe
                       try clear Fg
                       try clear Fh
                       try clear Fj
                       try clear Fp
                       try clear Fq
                       try clear FB
                       try clear FC
                       try clear FD
                       try clear FE
                       try clear FH
                       try clear FI
                       try clear FR
                       try clear FT
                       try clear FU
                       try clear FV
                       try clear FW
                       try clear FX
                       try clear Gp
                       try clear Gq
                       try clear Gr
                       try clear Gs
                       try clear Gt
                       try clear Gu
                       try clear Ca
                       try clear Cb
                       try clear Al
                       try clear Am
                       try clear Ap
                       try clear Aq
                       try clear Ar
                       try clear Av
                       try clear Bu
                       try clear Bv
                       try clear Bw
                       try clear Bz
                       try clear BA
                       try clear BF
                       try clear Ay
                       try clear Az
                       try clear p2
                       try clear GJ
                       try clear EC
                       try clear EI
                       try clear EF
                       try clear p6
                       try clear q2
                       try clear GK
                       try clear ED
                       try clear EJ
                       try clear EG
                       obtain ⟨Ah,rfl,HA,Hz,zQ,zN,HB⟩:=hrel
                       cases gk with
                       | zero=>exact absurd HA.out (by simp [aI.l2])
                       | succ k6 =>
                        have H:=HA.out
                        clear HA
                        simp only [aI.l2] at H
                        by_cases G6 : Ah < zW
                        ·rw [if_pos G6] at H
                         have c62b0 : decide (Ah < zW) = true:=decide_eq_true G6
                         clear G6
                         by_cases HY : 0 ≤ Ah
                         ·rw [if_pos HY] at H
                          have c63b0 : decide (0 ≤ Ah) = true:=decide_eq_true HY
                          clear HY
                          by_cases c64 : Ah < (((aG zL zM).f5).length : Int)
                          ·rw [if_pos c64] at H
                           have c64b0 : decide (Ah < (((aG zL zM).f5).length : Int)) = true:=decide_eq_true c64
                           clear c64
                           by_cases HZ : 0 ≤ zW
                           ·rw [if_pos HZ] at H
                            have c65b0 : decide (0 ≤ zW) = true:=decide_eq_true HZ
                            clear HZ
                            by_cases H6 : zW < (((aG zL zM).f5).length : Int)
                            ·rw [if_pos H6] at H
                             have c66b0 : decide (zW < (((aG zL zM).f5).length : Int)) = true:=decide_eq_true H6
                             clear H6
                             by_cases GV : ((d9 ((aG zL zM).f5) Ah).f0).toList = ((d9 ((aG zL zM).f5) zW).f0).toList
                             ·rw [if_pos GV] at H
                              have c67b0 : (((d9 ((aG zL zM).f5) Ah).f0).toList == ((d9 ((aG zL zM).f5) zW).f0).toList) = true:=beq_iff_eq.mpr GV
                              have c67b1 : (((d9 ((aG zL zM).f5) Ah).f0).toList != ((d9 ((aG zL zM).f5) zW).f0).toList) = false:=bne_eq_false_iff_eq.mpr GV
                              clear GV
                              obtain rfl:=Option.some.inj H
                              have Kw:=zT.out
                              have Ky:=zP.out
                              have Ia : wr.cell? ⟨zO,0,none⟩ = some (.string ((aG zL zM).f0)):=(ay zN.out 0).trans rfl
                              have Ib : wr.cell? ⟨zO,1,none⟩ = some (.string ((aG zL zM).f1)):=(ay zN.out 1).trans rfl
                              have Ic : wr.cell? ⟨zO,2,none⟩ = some (.string ((aG zL zM).f2)):=(ay zN.out 2).trans rfl
                              have Ie : wr.cell? ⟨zO,3,none⟩ = some (.int .u8 ((aG zL zM).f3)):=(ay zN.out 3).trans rfl
                              have Ig : wr.cell? ⟨zO,4,none⟩ = some (.int .u16 ((aG zL zM).f4)):=(ay zN.out 4).trans rfl
                              have Ih : wr.cell? ⟨zO,5,none⟩ = some (.slice (some BN) ((aG zL zM).f5).length zY):=(ay zN.out 5).trans rfl
                              have Ii:=av zN.out 0
                              have Ij:=av zN.out 1
                              have Ik:=av zN.out 2
                              have Il:=av zN.out 3
                              have Im:=av zN.out 4
                              have Io:=av zN.out 5
                              have EK : 0 ≤ (Ah : Int):=of_decide_eq_true (by first|(with_reducible assumption)|assumption)
                              have EL : Ah < (((aG zL zM).f5).length : Int):=of_decide_eq_true (by first|(with_reducible assumption)|assumption)
                              obtain ⟨F3,e208,BG,BH⟩:=iJ Aw.out Ah EK EL
                              obtain rfl : BN = F3:=(by injection e208)
                              replace BG:=(HB.out.cell (World.block_lt_of_cell? w _ BG)).trans BG
                              replace BH:=(HB.out.cell (World.block_lt_of_cell? w _ BH)).trans BH
                              replace EK:=eq_true EK
                              replace EL:=eq_true EL
                              have EM : 0 ≤ (zW : Int):=of_decide_eq_true (by first|(with_reducible assumption)|assumption)
                              have EN : zW < (((aG zL zM).f5).length : Int):=of_decide_eq_true (by first|(with_reducible assumption)|assumption)
                              obtain ⟨F4,e209,BI,BJ⟩:=iJ Aw.out zW EM EN
                              obtain rfl : BN = F4:=(by injection e209)
                              replace BI:=(HB.out.cell (World.block_lt_of_cell? w _ BI)).trans BI
                              replace BJ:=(HB.out.cell (World.block_lt_of_cell? w _ BJ)).trans BJ
                              replace EM:=eq_true EM
                              replace EN:=eq_true EN
                              go_wp2
                              repeat (go_quiet (fail);try go_wp2)
                              go_ret
                              exact ⟨by first|rfl|(simp [aY,aZ] <;> rfl)|(simp [*,aY,aZ] <;> rfl),by repeat (first|(with_reducible first|exact HB.out|apply aD|apply ak|apply aC|refine aA ?_ zV.out|refine aA ?_ z8.out)|exact HB.out)⟩
                             ·rw [if_neg GV] at H
                              have c67b0 : (((d9 ((aG zL zM).f5) Ah).f0).toList == ((d9 ((aG zL zM).f5) zW).f0).toList) = false:=beq_eq_false_iff_ne.mpr GV
                              have c67b1 : (((d9 ((aG zL zM).f5) Ah).f0).toList != ((d9 ((aG zL zM).f5) zW).f0).toList) = true:=bne_iff_ne.mpr GV
                              have H':=Aside0.mk H
                              clear H
                              have Kz:=zT.out
                              have KA:=zP.out
                              have Ip : wr.cell? ⟨zO,0,none⟩ = some (.string ((aG zL zM).f0)):=(ay zN.out 0).trans rfl
                              have Iq : wr.cell? ⟨zO,1,none⟩ = some (.string ((aG zL zM).f1)):=(ay zN.out 1).trans rfl
                              have Ir : wr.cell? ⟨zO,2,none⟩ = some (.string ((aG zL zM).f2)):=(ay zN.out 2).trans rfl
                              have Iu : wr.cell? ⟨zO,3,none⟩ = some (.int .u8 ((aG zL zM).f3)):=(ay zN.out 3).trans rfl
                              have Iw : wr.cell? ⟨zO,4,none⟩ = some (.int .u16 ((aG zL zM).f4)):=(ay zN.out 4).trans rfl
                              have Iy : wr.cell? ⟨zO,5,none⟩ = some (.slice (some BN) ((aG zL zM).f5).length zY):=(ay zN.out 5).trans rfl
                              have Iz:=av zN.out 0
                              have IB:=av zN.out 1
                              have IC:=av zN.out 2
                              have IE:=av zN.out 3
                              have IG:=av zN.out 4
                              have II:=av zN.out 5
                              have EK : 0 ≤ (Ah : Int):=of_decide_eq_true (by first|(with_reducible assumption)|assumption)
                              have EL : Ah < (((aG zL zM).f5).length : Int):=of_decide_eq_true (by first|(with_reducible assumption)|assumption)
                              obtain ⟨F3,e208,BG,BH⟩:=iJ Aw.out Ah EK EL
                              obtain rfl : BN = F3:=(by injection e208)
                              replace BG:=(HB.out.cell (World.block_lt_of_cell? w _ BG)).trans BG
                              replace BH:=(HB.out.cell (World.block_lt_of_cell? w _ BH)).trans BH
                              replace EK:=eq_true EK
                              replace EL:=eq_true EL
                              have EM : 0 ≤ (zW : Int):=of_decide_eq_true (by first|(with_reducible assumption)|assumption)
                              have EN : zW < (((aG zL zM).f5).length : Int):=of_decide_eq_true (by first|(with_reducible assumption)|assumption)
                              obtain ⟨F4,e209,BI,BJ⟩:=iJ Aw.out zW EM EN
                              obtain rfl : BN = F4:=(by injection e209)
                              replace BI:=(HB.out.cell (World.block_lt_of_cell? w _ BI)).trans BI
                              replace BJ:=(HB.out.cell (World.block_lt_of_cell? w _ BJ)).trans BJ
                              replace EM:=eq_true EM
                              replace EN:=eq_true EN
                              go_wp2
                              repeat (go_quiet (fail);try go_wp2)
                              go_roundg k6
                              case measure=>have:=ER.out;have:=FZ.out;have:=DK.out;have:=FY.out;have:=GZ.out;have:=Hz.out;omega
                              case rel=>exact ⟨(wrap64 (Ah + 1)),(by first|rfl|(simp;done)|(simp [*];done)),H',⟨by have:=ER.out;have:=FZ.out;have:=DK.out;have:=FY.out;have:=GZ.out;have:=Hz.out;omega⟩,⟨by (with_reducible repeat (first|apply aj|apply au|apply ah));exact zQ.out⟩,⟨by (with_reducible repeat (first|apply aj|apply au|apply ah));exact zN.out⟩,⟨by repeat (first|(with_reducible first|exact HB.out|apply aD|apply ak|apply aC|refine aA ?_ zV.out|refine aA ?_ z8.out)|exact HB.out)⟩⟩
                            ·rw [if_neg H6] at H
                             exact absurd H (by simp)
                           ·rw [if_neg HZ] at H
                            exact absurd H (by simp)
                          ·rw [if_neg c64] at H
                           exact absurd H (by simp)
                         ·rw [if_neg HY] at H
                          exact absurd H (by simp)
                        ·rw [if_neg G6] at H
                         have c62b0 : decide (Ah < zW) = false:=decide_eq_false G6
                         clear G6
                         by_cases c72 : 0 ≤ zW
                         ·rw [if_pos c72] at H
                          have c72b0 : decide (0 ≤ zW) = true:=decide_eq_true c72
                          clear c72
                          by_cases IJ : zW < (((aG zL zM).f5).length : Int)
                          ·rw [if_pos IJ] at H
                           have c73b0 : decide (zW < (((aG zL zM).f5).length : Int)) = true:=decide_eq_true IJ
                           clear IJ
                           replace H:=Option.bind_eq_some_iff.mp H
                           obtain ⟨Gb,Ho,H⟩:=H
                           replace H : (if Gb = true then (aI.l1 k6 zM (wrap64 (zW + 1)) zU zL ((aG zL zM).f0) ((aG zL zM).f1) ((aG zL zM).f2) ((aG zL zM).f3) ((aG zL zM).f4) ((aG zL zM).f5)) else (some 6)) = some r:=H
                           have G7:=Aside0.mk Ho
                           clear Ho
                           by_cases c75 : Gb = true
                           ·subst c75
                            have H1 : (aI.l1 k6 zM (wrap64 (zW + 1)) zU zL ((aG zL zM).f0) ((aG zL zM).f1) ((aG zL zM).f2) ((aG zL zM).f3) ((aG zL zM).f4) ((aG zL zM).f5)) = some r:=by rw [if_pos rfl] at H;exact H
                            clear H
                            have H:=H1
                            clear H1
                            have H':=Aside0.mk H
                            clear H
                            have KC:=zT.out
                            have KD:=zP.out
                            have IK : wr.cell? ⟨zO,0,none⟩ = some (.string ((aG zL zM).f0)):=(ay zN.out 0).trans rfl
                            have IL : wr.cell? ⟨zO,1,none⟩ = some (.string ((aG zL zM).f1)):=(ay zN.out 1).trans rfl
                            have IQ : wr.cell? ⟨zO,2,none⟩ = some (.string ((aG zL zM).f2)):=(ay zN.out 2).trans rfl
                            have IU : wr.cell? ⟨zO,3,none⟩ = some (.int .u8 ((aG zL zM).f3)):=(ay zN.out 3).trans rfl
                            have IV : wr.cell? ⟨zO,4,none⟩ = some (.int .u16 ((aG zL zM).f4)):=(ay zN.out 4).trans rfl
                            have IW : wr.cell? ⟨zO,5,none⟩ = some (.slice (some BN) ((aG zL zM).f5).length zY):=(ay zN.out 5).trans rfl
                            have IX:=av zN.out 0
                            have IY:=av zN.out 1
                            have IZ:=av zN.out 2
                            have I4:=av zN.out 3
                            have I5:=av zN.out 4
                            have I6:=av zN.out 5
                            have EO : 0 ≤ (zW : Int):=of_decide_eq_true (by first|(with_reducible assumption)|assumption)
                            have EP : zW < (((aG zL zM).f5).length : Int):=of_decide_eq_true (by first|(with_reducible assumption)|assumption)
                            obtain ⟨F5,e210,BK,BL⟩:=iJ Aw.out zW EO EP
                            obtain rfl : BN = F5:=(by injection e210)
                            replace BK:=(HB.out.cell (World.block_lt_of_cell? w _ BK)).trans BK
                            replace BL:=(HB.out.cell (World.block_lt_of_cell? w _ BL)).trans BL
                            replace EO:=eq_true EO
                            replace EP:=eq_true EP
                            go_wp2_with (first|(go_at_call 36;(with_reducible refine (bT.calls k6 ((d9 ((aG zL zM).f5) zW).f1) true _ G7.out).mono ?_);rintro e w' ⟨rfl,⟨nd,rfl⟩⟩;(try first|exact ⟨rfl,_,World.drewN_drewN _ _ _⟩|exact ⟨rfl,_,Eq.trans (World.drewN_drewN _ _ _) (congrArg (World.drewN _) (Nat.add_assoc _ _ _))⟩)))
                            repeat (go_quiet (first|(go_at_call 36;(with_reducible refine (bT.calls k6 ((d9 ((aG zL zM).f5) zW).f1) true _ G7.out).mono ?_);rintro e w' ⟨rfl,⟨nd,rfl⟩⟩;(try first|exact ⟨rfl,_,World.drewN_drewN _ _ _⟩|exact ⟨rfl,_,Eq.trans (World.drewN_drewN _ _ _) (congrArg (World.drewN _) (Nat.add_assoc _ _ _))⟩)));try go_wp2_with (first|(go_at_call 36;(with_reducible refine (bT.calls k6 ((d9 ((aG zL zM).f5) zW).f1) true _ G7.out).mono ?_);rintro e w' ⟨rfl,⟨nd,rfl⟩⟩;(try first|exact ⟨rfl,_,World.drewN_drewN _ _ _⟩|exact ⟨rfl,_,Eq.trans (World.drewN_drewN _ _ _) (congrArg (World.drewN _) (Nat.add_assoc _ _ _))⟩))))
                            go_roundg k6
                            case measure=>have:=ER.out;have:=FZ.out;have:=DK.out;have:=FY.out;have:=GZ.out;have:=Hz.out;omega
                            case rel=>exact ⟨(wrap64 (zW + 1)),(by first|rfl|(simp;done)|(simp [*];done)),H',⟨by have:=ER.out;have:=FZ.out;have:=DK.out;have:=FY.out;have:=GZ.out;have:=Hz.out;omega⟩,⟨by (with_reducible repeat (first|apply aj|apply au|apply ah));exact zQ.out⟩,⟨by (with_reducible repeat (first|apply aj|apply au|apply ah));exact zN.out⟩,⟨by repeat (first|(with_reducible first|exact HB.out|apply aD|apply ak|apply aC|refine aA ?_ zV.out|refine aA ?_ z8.out)|exact HB.out)⟩⟩
                           ·replace c75:=Bool.eq_false_iff.mpr c75
                            subst c75
                            have H1 : (some 6) = some r:=by rw [if_neg (show ¬ (false = true) by decide)] at H;exact H
                            clear H
                            have H:=H1
                            clear H1
                            obtain rfl:=Option.some.inj H
                            have KE:=zT.out
                            have KF:=zP.out
                            have I7 : wr.cell? ⟨zO,0,none⟩ = some (.string ((aG zL zM).f0)):=(ay zN.out 0).trans rfl
                            have I8 : wr.cell? ⟨zO,1,none⟩ = some (.string ((aG zL zM).f1)):=(ay zN.out 1).trans rfl
                            have I9 : wr.cell? ⟨zO,2,none⟩ = some (.string ((aG zL zM).f2)):=(ay zN.out 2).trans rfl
                            have Ja : wr.cell? ⟨zO,3,none⟩ = some (.int .u8 ((aG zL zM).f3)):=(ay zN.out 3).trans rfl
                            have Jb : wr.cell? ⟨zO,4,none⟩ = some (.int .u16 ((aG zL zM).f4)):=(ay zN.out 4).trans rfl
                            have Jc : wr.cell? ⟨zO,5,none⟩ = some (.slice (some BN) ((aG zL zM).f5).length zY):=(ay zN.out 5).trans rfl
                            have Jd:=av zN.out 0
                            have Je:=av zN.out 1
                            have Jf:=av zN.out 2
                            have Jg:=av zN.out 3
                            have Jh:=av zN.out 4
                            have Ji:=av zN.out 5
                            have EO : 0 ≤ (zW : Int):=of_decide_eq_true (by first|(with_reducible assumption)|assumption)
                            have EP : zW < (((aG zL zM).f5).length : Int):=of_decide_eq_true (by first|(with_reducible assumption)|assumption)
                            obtain ⟨F5,e210,BK,BL⟩:=iJ Aw.out zW EO EP
                            obtain rfl : BN = F5:=(by injection e210)
                            replace BK:=(HB.out.cell (World.block_lt_of_cell? w _ BK)).trans BK
                            replace BL:=(HB.out.cell (World.block_lt_of_cell? w _ BL)).trans BL
                            replace EO:=eq_true EO
                            replace EP:=eq_true EP
                            go_wp2_with (first|(go_at_call 36;(with_reducible refine (bT.calls k6 ((d9 ((aG zL zM).f5) zW).f1) false _ G7.out).mono ?_);rintro e w' ⟨rfl,⟨nd,rfl⟩⟩;(try first|exact ⟨rfl,_,World.drewN_drewN _ _ _⟩|exact ⟨rfl,_,Eq.trans (World.drewN_drewN _ _ _) (congrArg (World.drewN _) (Nat.add_assoc _ _ _))⟩)))
                            repeat (go_quiet (first|(go_at_call 36;(with_reducible refine (bT.calls k6 ((d9 ((aG zL zM).f5) zW).f1) false _ G7.out).mono ?_);rintro e w' ⟨rfl,⟨nd,rfl⟩⟩;(try first|exact ⟨rfl,_,World.drewN_drewN _ _ _⟩|exact ⟨rfl,_,Eq.trans (World.drewN_drewN _ _ _) (congrArg (World.drewN _) (Nat.add_assoc _ _ _))⟩)));try go_wp2_with (first|(go_at_call 36;(with_reducible refine (bT.calls k6 ((d9 ((aG zL zM).f5) zW).f1) false _ G7.out).mono ?_);rintro e w' ⟨rfl,⟨nd,rfl⟩⟩;(try first|exact ⟨rfl,_,World.drewN_drewN _ _ _⟩|exact ⟨rfl,_,Eq.trans (World.drewN_drewN _ _ _) (congrArg (World.drewN _) (Nat.add_assoc _ _ _))⟩))))
                            go_ret
                            exact ⟨by first|rfl|(simp [aY,aZ] <;> rfl)|(simp [*,aY,aZ] <;> rfl),by repeat (first|(with_reducible first|exact HB.out|apply aD|apply ak|apply aC|refine aA ?_ zV.out|refine aA ?_ z8.out)|exact HB.out)⟩
                          ·rw [if_neg IJ] at H
                           exact absurd H (by simp)
                         ·rw [if_neg c72] at H
                          exact absurd H (by simp)
                     ·replace c59:=Bool.eq_false_iff.mpr c59
                      subst c59
                      have H1 : (some 13) = some r:=by rw [if_neg (show ¬ (false = true) by decide)] at H;exact H
                      clear H
                      have H:=H1
                      clear H1
                      obtain rfl:=Option.some.inj H
                      have KG:=zT.out
                      have KH:=zP.out
                      have Jj : wr.cell? ⟨zO,0,none⟩ = some (.string ((aG zL zM).f0)):=(ay zN.out 0).trans rfl
                      have Jk : wr.cell? ⟨zO,1,none⟩ = some (.string ((aG zL zM).f1)):=(ay zN.out 1).trans rfl
                      have Jl : wr.cell? ⟨zO,2,none⟩ = some (.string ((aG zL zM).f2)):=(ay zN.out 2).trans rfl
                      have Jm : wr.cell? ⟨zO,3,none⟩ = some (.int .u8 ((aG zL zM).f3)):=(ay zN.out 3).trans rfl
                      have Jo : wr.cell? ⟨zO,4,none⟩ = some (.int .u16 ((aG zL zM).f4)):=(ay zN.out 4).trans rfl
                      have Jp : wr.cell? ⟨zO,5,none⟩ = some (.slice zZ ((aG zL zM).f5).length zY):=(ay zN.out 5).trans rfl
                      have Jq:=av zN.out 0
                      have Jr:=av zN.out 1
                      have Js:=av zN.out 2
                      have Jt:=av zN.out 3
                      have Ju:=av zN.out 4
                      have Jv:=av zN.out 5
                      have EF : 0 ≤ (zW : Int):=of_decide_eq_true (by first|(with_reducible assumption)|assumption)
                      have EG : zW < (((aG zL zM).f5).length : Int):=of_decide_eq_true (by first|(with_reducible assumption)|assumption)
                      obtain ⟨BN,e206,Ay,Az⟩:=iJ Aw.out zW EF EG
                      cases e206
                      replace Ay:=(HB.out.cell (World.block_lt_of_cell? w _ Ay)).trans Ay
                      replace Az:=(HB.out.cell (World.block_lt_of_cell? w _ Az)).trans Az
                      replace EF:=eq_true EF
                      replace EG:=eq_true EG
                      go_wp2_with (first|(go_at_call 54;(with_reducible refine (bG.calls k5 ((d9 ((aG zL zM).f5) zW).f0) false _ G5.out).mono ?_);rintro e w' ⟨rfl,⟨nd,rfl⟩⟩;(try first|exact ⟨rfl,_,World.drewN_drewN _ _ _⟩|exact ⟨rfl,_,Eq.trans (World.drewN_drewN _ _ _) (congrArg (World.drewN _) (Nat.add_assoc _ _ _))⟩)))
                      repeat (go_quiet (first|(go_at_call 54;(with_reducible refine (bG.calls k5 ((d9 ((aG zL zM).f5) zW).f0) false _ G5.out).mono ?_);rintro e w' ⟨rfl,⟨nd,rfl⟩⟩;(try first|exact ⟨rfl,_,World.drewN_drewN _ _ _⟩|exact ⟨rfl,_,Eq.trans (World.drewN_drewN _ _ _) (congrArg (World.drewN _) (Nat.add_assoc _ _ _))⟩)));try go_wp2_with (first|(go_at_call 54;(with_reducible refine (bG.calls k5 ((d9 ((aG zL zM).f5) zW).f0) false _ G5.out).mono ?_);rintro e w' ⟨rfl,⟨nd,rfl⟩⟩;(try first|exact ⟨rfl,_,World.drewN_drewN _ _ _⟩|exact ⟨rfl,_,Eq.trans (World.drewN_drewN _ _ _) (congrArg (World.drewN _) (Nat.add_assoc _ _ _))⟩))))
                      go_ret
                      exact ⟨by first|rfl|(simp [aY,aZ] <;> rfl)|(simp [*,aY,aZ] <;> rfl),by repeat (first|(with_reducible first|exact HB.out|apply aD|apply ak|apply aC|refine aA ?_ zV.out|refine aA ?_ z8.out)|exact HB.out)⟩
                    ·rw [if_neg Hg] at H
                     exact absurd H (by simp)
                   ·rw [if_neg GU] at H
                    have c56b0 : decide (zW < (((aG zL zM).f5).length : Int)) = false:=decide_eq_false GU
                    clear GU
                    have H':=Aside0.mk H
                    clear H
                    have KI:=zT.out
                    have KJ:=zP.out
                    have Jw : wr.cell? ⟨zO,0,none⟩ = some (.string ((aG zL zM).f0)):=(ay zN.out 0).trans rfl
                    have Jy : wr.cell? ⟨zO,1,none⟩ = some (.string ((aG zL zM).f1)):=(ay zN.out 1).trans rfl
                    have Jz : wr.cell? ⟨zO,2,none⟩ = some (.string ((aG zL zM).f2)):=(ay zN.out 2).trans rfl
                    have JA : wr.cell? ⟨zO,3,none⟩ = some (.int .u8 ((aG zL zM).f3)):=(ay zN.out 3).trans rfl
                    have JB : wr.cell? ⟨zO,4,none⟩ = some (.int .u16 ((aG zL zM).f4)):=(ay zN.out 4).trans rfl
                    have JC : wr.cell? ⟨zO,5,none⟩ = some (.slice zZ ((aG zL zM).f5).length zY):=(ay zN.out 5).trans rfl
                    have JD:=av zN.out 0
                    have JE:=av zN.out 1
                    have JF:=av zN.out 2
                    have JG:=av zN.out 3
                    have JH:=av zN.out 4
                    have JI:=av zN.out 5
                    go_wp2
                    repeat (go_quiet (fail);try go_wp2)
                    go_roundg k5
                    case measure=>have:=ER.out;have:=FZ.out;have:=DK.out;have:=FY.out;have:=GZ.out;omega
                    case rel=>exact ⟨(wrap64 (zM + 1)),(by first|rfl|(simp;done)|(simp [*];done)),H',⟨by have:=ER.out;have:=FZ.out;have:=DK.out;have:=FY.out;have:=GZ.out;omega⟩,⟨by (with_reducible repeat (first|apply aj|apply au|apply ah));exact zQ.out⟩,⟨by repeat (first|(with_reducible first|exact HB.out|apply aD|apply ak|apply aC|refine aA ?_ zV.out|refine aA ?_ z8.out)|exact HB.out)⟩⟩
     ·rw [if_neg c8] at H
      exact absurd H (by simp)
    ·rw [if_neg c7] at H
     have c7b0 : decide (zM < (zL.length : Int)) = false:=decide_eq_false c7
     clear c7
     obtain rfl:=Option.some.inj H
     have JJ : wr.cell? ⟨zS,0,none⟩ = some (.int .u64 zU):=(ay zQ.out 0).trans rfl
     have JK : wr.cell? ⟨zS,1,none⟩ = some (.slice BO zL.length Ab):=(ay zQ.out 1).trans rfl
     have JL:=av zQ.out 0
     have JM:=av zQ.out 1
     go_wp2
     repeat (go_quiet (fail);try go_wp2)
     go_ret
     exact ⟨by first|rfl|(simp [aY,aZ] <;> rfl)|(simp [*,aY,aZ] <;> rfl),by repeat (first|(with_reducible first|exact HB.out|apply aD|apply ak|apply aC|refine aA ?_ zV.out)|exact HB.out)⟩
end Go.Proofs.YtpmbdcljphpcnaaDoor.GC2
