/- Written by this session's own program (wip/gen.py) out of the translation: plain Lean functions of the Go functions, and proofs that the calls come to their answers. No conditions beside those in the statements. -/
import Derived.Test.YtnkkbiabloodaaaDoorGVax0
namespace Go.Proofs.YtnkkbiabloodaaaDoor.GVa
open Go.RowKit Go.Proofs.YtnkkbiabloodaaaDoorW.PrintWords Go.Proofs.YtnkkbiabloodaaaDoorW.PrintLast Go.Proofs.YtnkkbiabloodaaaDoorW.PrintMore
attribute [local go_sem] fG fH fV fZ eO eP fI fJ
set_option linter.unusedVariables false
set_option linter.unusedSimpArgs false
mutual
def aJ.j0 : Nat → Bool → Int → Bool → Int → ByteArray → List (S33) → List (S50) → Int → Bool → Int → ByteArray → List (S33) → List (S50) → Option (Bool)
 | 0,_,_,_,_,_,_,_,_,_,_,_,_,_=>none
 | k + 1,SK,zO,Ap,Aq,Ar,yR,yM,Au,Av,AA,AB,yS,yN=>if SK = true then (some false) else (if zO = 4 then (if (yR.length : Int) = (yS.length : Int) then (aJ.l0 k 0 zO Ap Aq Ar yR yM Au Av AA AB yS yN) else (some false)) else (aJ.j2 k zO Ap Aq Ar yR yM Au Av AA AB yS yN))
def aJ.j2 : Nat → Int → Bool → Int → ByteArray → List (S33) → List (S50) → Int → Bool → Int → ByteArray → List (S33) → List (S50) → Option (Bool)
 | 0,_,_,_,_,_,_,_,_,_,_,_,_=>none
 | k + 1,zO,Ap,Aq,Ar,yR,yM,Au,Av,AA,AB,yS,yN=>if zO = 5 then (if (yM.length : Int) = (yN.length : Int) then (aJ.l1 k 0 zO Ap Aq Ar yR yM Au Av AA AB yS yN) else (some false)) else (some true)
def aJ.l1 : Nat → Int → Int → Bool → Int → ByteArray → List (S33) → List (S50) → Int → Bool → Int → ByteArray → List (S33) → List (S50) → Option (Bool)
 | 0,_,_,_,_,_,_,_,_,_,_,_,_,_=>none
 | k + 1,x6,zO,Ap,Aq,Ar,yR,yM,Au,Av,AA,AB,yS,yN=>if x6 < (yM.length : Int) then (if 0 ≤ x6 then (if x6 < (yN.length : Int) then (if ((aV yM x6).f0).toList = ((aV yN x6).f0).toList then ((aJ.f k ((aV yM x6).f1.f0) ((aV yM x6).f1.f1) ((aV yM x6).f1.f2) ((aV yM x6).f1.f3) ((aV yM x6).f1.f4) ((aV yM x6).f1.f5) ((aV yN x6).f1.f0) ((aV yN x6).f1.f1) ((aV yN x6).f1.f2) ((aV yN x6).f1.f3) ((aV yN x6).f1.f4) ((aV yN x6).f1.f5)).bind fun EK=>(if EK = true then (aJ.l1 k (wrap64 (x6 + 1)) zO Ap Aq Ar yR yM Au Av AA AB yS yN) else (some false))) else (some false)) else (none)) else (none)) else (some true)
def aJ.l0 : Nat → Int → Int → Bool → Int → ByteArray → List (S33) → List (S50) → Int → Bool → Int → ByteArray → List (S33) → List (S50) → Option (Bool)
 | 0,_,_,_,_,_,_,_,_,_,_,_,_,_=>none
 | k + 1,x5,zO,Ap,Aq,Ar,yR,yM,Au,Av,AA,AB,yS,yN=>if x5 < (yR.length : Int) then (if 0 ≤ x5 then (if x5 < (yS.length : Int) then ((aJ.f k ((bG yR x5).f0) ((bG yR x5).f1) ((bG yR x5).f2) ((bG yR x5).f3) ((bG yR x5).f4) ((bG yR x5).f5) ((bG yS x5).f0) ((bG yS x5).f1) ((bG yS x5).f2) ((bG yS x5).f3) ((bG yS x5).f4) ((bG yS x5).f5)).bind fun EL=>(if EL = true then (aJ.l0 k (wrap64 (x5 + 1)) zO Ap Aq Ar yR yM Au Av AA AB yS yN) else (some false))) else (none)) else (none)) else (aJ.j2 k zO Ap Aq Ar yR yM Au Av AA AB yS yN)
def aJ.f : Nat → Int → Bool → Int → ByteArray → List (S33) → List (S50) → Int → Bool → Int → ByteArray → List (S33) → List (S50) → Option (Bool)
 | 0,_,_,_,_,_,_,_,_,_,_,_,_=>none
 | k + 1,yc,yA,yw,yx,yh,xY,yG,yF,yD,yE,yj,xZ=>if yc = yG then (if yc = 1 then (if (yA != yF) = true then (aJ.j0 k true yc yA yw yx yh xY yG yF yD yE yj xZ) else (if yc = 2 then (if yw = yD then (if yc = 3 then (aJ.j0 k (yx.toList != yE.toList) yc yA yw yx yh xY yG yF yD yE yj xZ) else (aJ.j0 k false yc yA yw yx yh xY yG yF yD yE yj xZ)) else (aJ.j0 k true yc yA yw yx yh xY yG yF yD yE yj xZ)) else (if yc = 3 then (aJ.j0 k (yx.toList != yE.toList) yc yA yw yx yh xY yG yF yD yE yj xZ) else (aJ.j0 k false yc yA yw yx yh xY yG yF yD yE yj xZ)))) else (if yc = 2 then (if yw = yD then (if yc = 3 then (aJ.j0 k (yx.toList != yE.toList) yc yA yw yx yh xY yG yF yD yE yj xZ) else (aJ.j0 k false yc yA yw yx yh xY yG yF yD yE yj xZ)) else (aJ.j0 k true yc yA yw yx yh xY yG yF yD yE yj xZ)) else (if yc = 3 then (aJ.j0 k (yx.toList != yE.toList) yc yA yw yx yh xY yG yF yD yE yj xZ) else (aJ.j0 k false yc yA yw yx yh xY yG yF yD yE yj xZ)))) else (aJ.j0 k true yc yA yw yx yh xY yG yF yD yE yj xZ)
end
theorem aJ.eG : ∀ k,(∀ y0 y1 y2 y3 y4 y5 y6 y7 y8 y9 Du Dv,LeO (aJ.f k y0 y1 y2 y3 y4 y5 y6 y7 y8 y9 Du Dv) (aJ.f (k + 1) y0 y1 y2 y3 y4 y5 y6 y7 y8 y9 Du Dv)) ∧ (∀ y0 y1 y2 y3 y4 y5 y6 y7 y8 y9 Du Dv Et,LeO (aJ.j0 k y0 y1 y2 y3 y4 y5 y6 y7 y8 y9 Du Dv Et) (aJ.j0 (k + 1) y0 y1 y2 y3 y4 y5 y6 y7 y8 y9 Du Dv Et)) ∧ (∀ y0 y1 y2 y3 y4 y5 y6 y7 y8 y9 Du Dv,LeO (aJ.j2 k y0 y1 y2 y3 y4 y5 y6 y7 y8 y9 Du Dv) (aJ.j2 (k + 1) y0 y1 y2 y3 y4 y5 y6 y7 y8 y9 Du Dv)) ∧ (∀ y0 y1 y2 y3 y4 y5 y6 y7 y8 y9 Du Dv Et,LeO (aJ.l1 k y0 y1 y2 y3 y4 y5 y6 y7 y8 y9 Du Dv Et) (aJ.l1 (k + 1) y0 y1 y2 y3 y4 y5 y6 y7 y8 y9 Du Dv Et)) ∧ (∀ y0 y1 y2 y3 y4 y5 y6 y7 y8 y9 Du Dv Et,LeO (aJ.l0 k y0 y1 y2 y3 y4 y5 y6 y7 y8 y9 Du Dv Et) (aJ.l0 (k + 1) y0 y1 y2 y3 y4 y5 y6 y7 y8 y9 Du Dv Et))
 | 0=>⟨fun _ _ _ _ _ _ _ _ _ _ _ _ r h=>by simp [aJ.f] at h,fun _ _ _ _ _ _ _ _ _ _ _ _ _ r h=>by simp [aJ.j0] at h,fun _ _ _ _ _ _ _ _ _ _ _ _ r h=>by simp [aJ.j2] at h,fun _ _ _ _ _ _ _ _ _ _ _ _ _ r h=>by simp [aJ.l1] at h,fun _ _ _ _ _ _ _ _ _ _ _ _ _ r h=>by simp [aJ.l0] at h⟩
 | k + 1=>by
  obtain ⟨Es,ih1,ih2,ih3,ih4⟩:=aJ.eG k
  refine ⟨?_,?_,?_,?_,?_⟩
  ·intro y0 y1 y2 y3 y4 y5 y6 y7 y8 y9 Du Dv
   unfold aJ.f
   repeat' first
   | (with_reducible exact Es _ _ _ _ _ _ _ _ _ _ _ _)
   | (with_reducible exact ih1 _ _ _ _ _ _ _ _ _ _ _ _ _)
   | (with_reducible exact ih2 _ _ _ _ _ _ _ _ _ _ _ _)
   | (with_reducible exact ih3 _ _ _ _ _ _ _ _ _ _ _ _ _)
   | (with_reducible exact ih4 _ _ _ _ _ _ _ _ _ _ _ _ _)
   | (with_reducible exact LeO.refl _)
   | (with_reducible exact LeO.none _)
   | (with_reducible refine LeO.ite ?_ ?_)
   | (with_reducible refine LeO.bind ?_ (fun _=>?_))
   | exact Es _ _ _ _ _ _ _ _ _ _ _ _
   | exact ih1 _ _ _ _ _ _ _ _ _ _ _ _ _
   | exact ih2 _ _ _ _ _ _ _ _ _ _ _ _
   | exact ih3 _ _ _ _ _ _ _ _ _ _ _ _ _
   | exact ih4 _ _ _ _ _ _ _ _ _ _ _ _ _
   | exact LeO.none _
   | refine LeO.ite ?_ ?_
   | refine LeO.bind ?_ (fun _=>?_)
  ·intro y0 y1 y2 y3 y4 y5 y6 y7 y8 y9 Du Dv Et
   unfold aJ.j0
   repeat' first
   | (with_reducible exact Es _ _ _ _ _ _ _ _ _ _ _ _)
   | (with_reducible exact ih1 _ _ _ _ _ _ _ _ _ _ _ _ _)
   | (with_reducible exact ih2 _ _ _ _ _ _ _ _ _ _ _ _)
   | (with_reducible exact ih3 _ _ _ _ _ _ _ _ _ _ _ _ _)
   | (with_reducible exact ih4 _ _ _ _ _ _ _ _ _ _ _ _ _)
   | (with_reducible exact LeO.refl _)
   | (with_reducible exact LeO.none _)
   | (with_reducible refine LeO.ite ?_ ?_)
   | (with_reducible refine LeO.bind ?_ (fun _=>?_))
   | exact Es _ _ _ _ _ _ _ _ _ _ _ _
   | exact ih1 _ _ _ _ _ _ _ _ _ _ _ _ _
   | exact ih2 _ _ _ _ _ _ _ _ _ _ _ _
   | exact ih3 _ _ _ _ _ _ _ _ _ _ _ _ _
   | exact ih4 _ _ _ _ _ _ _ _ _ _ _ _ _
   | exact LeO.none _
   | refine LeO.ite ?_ ?_
   | refine LeO.bind ?_ (fun _=>?_)
  ·intro y0 y1 y2 y3 y4 y5 y6 y7 y8 y9 Du Dv
   unfold aJ.j2
   repeat' first
   | (with_reducible exact Es _ _ _ _ _ _ _ _ _ _ _ _)
   | (with_reducible exact ih1 _ _ _ _ _ _ _ _ _ _ _ _ _)
   | (with_reducible exact ih2 _ _ _ _ _ _ _ _ _ _ _ _)
   | (with_reducible exact ih3 _ _ _ _ _ _ _ _ _ _ _ _ _)
   | (with_reducible exact ih4 _ _ _ _ _ _ _ _ _ _ _ _ _)
   | (with_reducible exact LeO.refl _)
   | (with_reducible exact LeO.none _)
   | (with_reducible refine LeO.ite ?_ ?_)
   | (with_reducible refine LeO.bind ?_ (fun _=>?_))
   | exact Es _ _ _ _ _ _ _ _ _ _ _ _
   | exact ih1 _ _ _ _ _ _ _ _ _ _ _ _ _
   | exact ih2 _ _ _ _ _ _ _ _ _ _ _ _
   | exact ih3 _ _ _ _ _ _ _ _ _ _ _ _ _
   | exact ih4 _ _ _ _ _ _ _ _ _ _ _ _ _
   | exact LeO.none _
   | refine LeO.ite ?_ ?_
   | refine LeO.bind ?_ (fun _=>?_)
  ·intro y0 y1 y2 y3 y4 y5 y6 y7 y8 y9 Du Dv Et
   unfold aJ.l1
   repeat' first
   | (with_reducible exact Es _ _ _ _ _ _ _ _ _ _ _ _)
   | (with_reducible exact ih1 _ _ _ _ _ _ _ _ _ _ _ _ _)
   | (with_reducible exact ih2 _ _ _ _ _ _ _ _ _ _ _ _)
   | (with_reducible exact ih3 _ _ _ _ _ _ _ _ _ _ _ _ _)
   | (with_reducible exact ih4 _ _ _ _ _ _ _ _ _ _ _ _ _)
   | (with_reducible exact LeO.refl _)
   | (with_reducible exact LeO.none _)
   | (with_reducible refine LeO.ite ?_ ?_)
   | (with_reducible refine LeO.bind ?_ (fun _=>?_))
   | exact Es _ _ _ _ _ _ _ _ _ _ _ _
   | exact ih1 _ _ _ _ _ _ _ _ _ _ _ _ _
   | exact ih2 _ _ _ _ _ _ _ _ _ _ _ _
   | exact ih3 _ _ _ _ _ _ _ _ _ _ _ _ _
   | exact ih4 _ _ _ _ _ _ _ _ _ _ _ _ _
   | exact LeO.none _
   | refine LeO.ite ?_ ?_
   | refine LeO.bind ?_ (fun _=>?_)
  ·intro y0 y1 y2 y3 y4 y5 y6 y7 y8 y9 Du Dv Et
   unfold aJ.l0
   repeat' first
   | (with_reducible exact Es _ _ _ _ _ _ _ _ _ _ _ _)
   | (with_reducible exact ih1 _ _ _ _ _ _ _ _ _ _ _ _ _)
   | (with_reducible exact ih2 _ _ _ _ _ _ _ _ _ _ _ _)
   | (with_reducible exact ih3 _ _ _ _ _ _ _ _ _ _ _ _ _)
   | (with_reducible exact ih4 _ _ _ _ _ _ _ _ _ _ _ _ _)
   | (with_reducible exact LeO.refl _)
   | (with_reducible exact LeO.none _)
   | (with_reducible refine LeO.ite ?_ ?_)
   | (with_reducible refine LeO.bind ?_ (fun _=>?_))
   | exact Es _ _ _ _ _ _ _ _ _ _ _ _
   | exact ih1 _ _ _ _ _ _ _ _ _ _ _ _ _
   | exact ih2 _ _ _ _ _ _ _ _ _ _ _ _
   | exact ih3 _ _ _ _ _ _ _ _ _ _ _ _ _
   | exact ih4 _ _ _ _ _ _ _ _ _ _ _ _ _
   | exact LeO.none _
   | refine LeO.ite ?_ ?_
   | refine LeO.bind ?_ (fun _=>?_)
theorem aJ.mono : ∀ a0 a1 a2 a3 a4 a5 a6 a7 a8 a9 G5 G6 k,LeO (aJ.f k a0 a1 a2 a3 a4 a5 a6 a7 a8 a9 G5 G6) (aJ.f (k + 1) a0 a1 a2 a3 a4 a5 a6 a7 a8 a9 G5 G6):=by
 intro a0 a1 a2 a3 a4 a5 a6 a7 a8 a9 G5 G6 k
 obtain ⟨Es,ih1,ih2,ih3,ih4⟩:=aJ.eG k
 exact Es a0 a1 a2 a3 a4 a5 a6 a7 a8 a9 G5 G6
def aJ.T9 : Bool × List (List Nat × List Nat):=(true,[([],[]),([0],[0]),([],[]),([1,2],[1,2]),([3],[3]),([],[]),([5],[5]),([],[]),([6,7],[6,7]),([8],[8]),([4,9],[4,9]),([10],[10])])
def aJ.B9 : List Nat:=[0,1,0,7,15,0,32,0,224,480,1023,2047]
theorem aJ.wS : gW .any (opsOf Tryd.f13 9) = aJ.T9:=by kernel_rfl
theorem aJ.u7 : gF aJ.T9.2 aJ.B9 = true:=by kernel_rfl
def aJ.T17 : Bool × List (List Nat × List Nat):=(true,[([],[]),([0],[0]),([],[]),([1,2],[1,2]),([3],[3]),([4],[4]),([],[]),([6],[6]),([],[]),([7,8],[7,8]),([9],[9]),([10],[10]),([5,11],[5,11]),([12],[12]),([13],[13]),([14,13],[13,14]),([13],[13]),([15,16,13],[13,15,16]),([17,13],[13,17]),([18,13],[13,18]),([13],[13]),([20,13],[13,20]),([13],[13]),([21,22,13],[13,21,22]),([23,13],[13,23]),([24,13],[13,24]),([19,25,13,13],[13,19,25]),([26,13],[13,26]),([13,27],[13,27])])
def aJ.B17 : List Nat:=[0,1,0,7,15,31,0,64,0,448,960,1984,4095,8191,16383,32767,16383,131071,262143,524287,16383,1064959,16383,7356415,15745023,32522239,67108863,134217727,268435455]
theorem aJ.pK : gW .any (opsOf Tryd.f13 17) = aJ.T17:=by kernel_rfl
theorem aJ.nA : gF aJ.T17.2 aJ.B17 = true:=by kernel_rfl
set_option maxHeartbeats 8000000 in
set_option maxRecDepth 100000 in
theorem aJ.calls (k : Nat) : ∀ (yc : Int) (yA : Bool) (yw : Int) (yx : ByteArray) (zi : Option Addr) (yP : Nat) (yh : List (S33)) (zm : Option Addr) (yQ : Nat) (xY : List (S50)) (yG : Int) (yF : Bool) (yD : Int) (yE : ByteArray) (zP : Option Addr) (zw : Nat) (yj : List (S33)) (Ao : Option Addr) (zx : Nat) (xZ : List (S50)) (r : Bool) (w : World) (Eu : Kd.C k33 w zi yh.length yh) (Ew : yh.length ≤ yP) (Ey : Kd.C k50 w zm xY.length xY) (Ez : xY.length ≤ yQ) (EA : Kd.C k33 w zP yj.length yj) (EB : yj.length ≤ zw) (EC : Kd.C k50 w Ao xZ.length xZ) (ED : xZ.length ≤ zx) (h : aJ.f k yc yA yw yx yh xY yG yF yD yE yj xZ = some r),
  Calls Tryd.prog 13 #[.agg #[.int .i64 yc,.bool yA,.int .i64 yw,.string yx,.slice zi yh.length yP,.slice zm xY.length yQ],.agg #[.int .i64 yG,.bool yF,.int .i64 yD,.string yE,.slice zP yj.length zw,.slice Ao xZ.length zx]] w fun e w'=>e = .returned (.bool r) ∧ Below w.heap.size w w':=by
 induction k using Nat.strongRecOn with
 | _ k ih =>
 intro yc yA yw yx zi yP yh zm yQ xY yG yF yD yE zP zw yj Ao zx xZ r w Eu Ew Ey Ez EA EB EC ED h
 cases k with
 | zero=>exact absurd h (by simp [aJ.f])
 | succ k =>
 simp only [aJ.f] at h
 have SL:=Tryd.underlying33
 have EN:=Aside0.mk Eu
 have Rx:=Aside0.mk Ew
 clear Eu Ew
 have DL:=Aside0.mk Ey
 have Ry:=Aside0.mk Ez
 clear Ey Ez
 have EO:=Aside0.mk EA
 have Rz:=Aside0.mk EB
 clear EA EB
 have DN:=Aside0.mk EC
 have RA:=Aside0.mk ED
 clear EC ED
 have HB:=Aside0.mk (Below.refl w.heap.size w)
 have H : (if yc = yG then (if yc = 1 then (if (yA != yF) = true then (aJ.j0 k true yc yA yw yx yh xY yG yF yD yE yj xZ) else (if yc = 2 then (if yw = yD then (if yc = 3 then (aJ.j0 k (yx.toList != yE.toList) yc yA yw yx yh xY yG yF yD yE yj xZ) else (aJ.j0 k false yc yA yw yx yh xY yG yF yD yE yj xZ)) else (aJ.j0 k true yc yA yw yx yh xY yG yF yD yE yj xZ)) else (if yc = 3 then (aJ.j0 k (yx.toList != yE.toList) yc yA yw yx yh xY yG yF yD yE yj xZ) else (aJ.j0 k false yc yA yw yx yh xY yG yF yD yE yj xZ)))) else (if yc = 2 then (if yw = yD then (if yc = 3 then (aJ.j0 k (yx.toList != yE.toList) yc yA yw yx yh xY yG yF yD yE yj xZ) else (aJ.j0 k false yc yA yw yx yh xY yG yF yD yE yj xZ)) else (aJ.j0 k true yc yA yw yx yh xY yG yF yD yE yj xZ)) else (if yc = 3 then (aJ.j0 k (yx.toList != yE.toList) yc yA yw yx yh xY yG yF yD yE yj xZ) else (aJ.j0 k false yc yA yw yx yh xY yG yF yD yE yj xZ)))) else (aJ.j0 k true yc yA yw yx yh xY yG yF yD yE yj xZ)) = some r:=h
 clear h
 have Rp:=Aside0.mk H
 clear H
 go_enter Tryd.func13,Tryd.ntmps13
 go_upto_region 1 with (first|((with_reducible refine bH (N:=2) rfl ?_);refine bF ?hg (N:=2) ?hd (cs:=#[.int .i64 yc,.bool yA,.int .i64 yw,.string yx,.slice zi yh.length yP,.slice zm xY.length yQ]) (t:=33) ?hr ?_;(case hd=>rfl);(case hg=>rfl);(case hr=>first|(go_simp;done)|(go_simp;rfl));intro xW hg w4 hbox hb;have BQ:=Aside0.mk (aK (by repeat (first|(with_reducible first|exact HB.out|apply av|apply ak|apply au)|exact HB.out)) hb);have BR:=Aside0.mk (hbox);have BS:=Aside0.mk ((by rw [hg];exact (aM (by repeat (first|(with_reducible first|exact HB.out|apply av|apply ak|apply au)|exact HB.out))) : w.heap.size ≤ xW));have Fv:=Aside0.mk ((by rw [hg];exact (aM (by repeat (first|(with_reducible first|exact HB.out|apply av|apply ak|apply au)|exact HB.out))) : w.heap.size ≤ xW));clear HB;have HB:=BQ;have xS:=BR;have RB:=BS;have yH:=Fv;clear BQ BR BS Fv;clear hb hbox hg)|((with_reducible refine bH (N:=3) rfl ?_);refine bF ?hg (N:=3) ?hd (cs:=#[.int .i64 yG,.bool yF,.int .i64 yD,.string yE,.slice zP yj.length zw,.slice Ao xZ.length zx]) (t:=33) ?hr ?_;(case hd=>rfl);(case hg=>rfl);(case hr=>first|(go_simp;done)|(go_simp;rfl));intro xX hg w5 hbox hb;have BQ:=Aside0.mk (aI (g:=xW) (o:=.cells #[.int .i64 yc,.bool yA,.int .i64 yw,.string yx,.slice zi yh.length yP,.slice zm xY.length yQ] 33 (0,0)) (bk_ xS.out) hb);have BR:=Aside0.mk (aK (by repeat (first|(with_reducible first|exact HB.out|apply av|apply ak|apply au|refine aG ?_ yH.out)|exact HB.out)) hb);have BS:=Aside0.mk (hbox);have Fv:=Aside0.mk ((by rw [hg];exact (aM (by repeat (first|(with_reducible first|exact HB.out|apply av|apply ak|apply au|refine aG ?_ yH.out)|exact HB.out))) : w.heap.size ≤ xX));have RD:=Aside0.mk ((by rw [hg];exact (aM (by repeat (first|(with_reducible first|exact HB.out|apply av|apply ak|apply au|refine aG ?_ yH.out)|exact HB.out))) : w.heap.size ≤ xX));have RF:=Aside0.mk ((by rw [hg];exact Nat.ne_of_lt (bO (g:=xW) (o:=.cells #[.int .i64 yc,.bool yA,.int .i64 yw,.string yx,.slice zi yh.length yP,.slice zm xY.length yQ] 33 (0,0)) (bk_ xS.out)) : xW ≠ xX));have RG:=Aside0.mk ((by rw [hg];exact Nat.ne_of_gt (bO (g:=xW) (o:=.cells #[.int .i64 yc,.bool yA,.int .i64 yw,.string yx,.slice zi yh.length yP,.slice zm xY.length yQ] 33 (0,0)) (bk_ xS.out)) : xX ≠ xW));clear xS;clear HB;have xS:=BQ;have HB:=BR;have xU:=BS;have RH:=Fv;have yO:=RD;have yB:=RF;have yC:=RG;clear BQ BR BS Fv RD RF RG;clear hb hbox hg))
 (try simp only [Act.put,List.setIfInBounds_toArray,List.set_cons_zero,List.set_cons_succ])
 go_cut [47] (fun v47 wc=>∃ (kq : Nat) (Em : Bool),v47 = .bool Em ∧ Aside0 (aJ.j0 kq Em yc yA yw yx yh xY yG yF yD yE yj xZ = some r) ∧ Aside0 (kq ≤ k) ∧ Aside0 (wc.heap[xW]? = some (.cells #[.int .i64 yc,.bool yA,.int .i64 yw,.string yx,(.slice zi yh.length yP),(.slice zm xY.length yQ)] 33 (0,0))) ∧ Aside0 (wc.heap[xX]? = some (.cells #[.int .i64 yG,.bool yF,.int .i64 yD,.string yE,(.slice zP yj.length zw),(.slice Ao xZ.length zx)] 33 (0,0))) ∧ Aside0 (Below w.heap.size w wc))
 case first =>
  have H:=Rp.out
  clear Rp
  by_cases c6 : yc = yG
  ·rw [if_pos c6] at H
   have c6b0 : (yc == yG) = true:=beq_iff_eq.mpr c6
   have c6b1 : (yc != yG) = false:=bne_eq_false_iff_eq.mpr c6
   clear c6
   (first|rw [c6b0]|(simp only [aT,aU];rw [c6b0])|skip)
   by_cases c7 : yc = 1
   ·rw [if_pos c7] at H
    have c7b0 : (yc == 1) = true:=beq_iff_eq.mpr c7
    have c7b1 : (yc != 1) = false:=bne_eq_false_iff_eq.mpr c7
    clear c7
    by_cases c8 : (yA != yF) = true
    ·rw [if_pos c8] at H
     have c8b0 : (yA != yF) = true:=c8
     (try (have c8b1 : decide (yA = yF) = false:=by simpa using c8))
     (try (have c8b2 : (yA == yF) = false:=by simpa using c8))
     (try (have c8b3 : ¬ (yA = yF):=by simpa using c8))
     clear c8
     have H':=Aside0.mk H
     clear H
     have SN:=yB.out
     have SQ:=yC.out
     have G7 : w5.cell? ⟨xW,0,none⟩ = some (.int .i64 yc):=(ah xS.out 0).trans rfl
     have G8 : w5.cell? ⟨xW,1,none⟩ = some (.bool yA):=(ah xS.out 1).trans rfl
     have G9 : w5.cell? ⟨xW,2,none⟩ = some (.int .i64 yw):=(ah xS.out 2).trans rfl
     have He : w5.cell? ⟨xW,3,none⟩ = some (.string yx):=(ah xS.out 3).trans rfl
     have Hf : w5.cell? ⟨xW,4,none⟩ = some (.slice zi yh.length yP):=(ah xS.out 4).trans rfl
     have Hg : w5.cell? ⟨xW,5,none⟩ = some (.slice zm xY.length yQ):=(ah xS.out 5).trans rfl
     have Hl:=aj xS.out 0
     have Ho:=aj xS.out 1
     have Hq:=aj xS.out 2
     have Hr:=aj xS.out 3
     have Ht:=aj xS.out 4
     have Hu:=aj xS.out 5
     have Hw : w5.cell? ⟨xX,0,none⟩ = some (.int .i64 yG):=(ah xU.out 0).trans rfl
     have Hy : w5.cell? ⟨xX,1,none⟩ = some (.bool yF):=(ah xU.out 1).trans rfl
     have Hz : w5.cell? ⟨xX,2,none⟩ = some (.int .i64 yD):=(ah xU.out 2).trans rfl
     have H6 : w5.cell? ⟨xX,3,none⟩ = some (.string yE):=(ah xU.out 3).trans rfl
     have H7 : w5.cell? ⟨xX,4,none⟩ = some (.slice zP yj.length zw):=(ah xU.out 4).trans rfl
     have H8 : w5.cell? ⟨xX,5,none⟩ = some (.slice Ao xZ.length zx):=(ah xU.out 5).trans rfl
     have Ia:=aj xU.out 0
     have Ib:=aj xU.out 1
     have Ic:=aj xU.out 2
     have Ie:=aj xU.out 3
     have Ig:=aj xU.out 4
     have Ih:=aj xU.out 5
     go_wp2
     go_meet
     case rel=>exact ⟨_,(true),(by first|rfl|(simp;done)|(simp [*];done)),H',⟨by first|omega|exact Nat.le_refl _⟩,⟨by (with_reducible repeat (first|apply aA|apply aD|apply ay));exact xS.out⟩,⟨by (with_reducible repeat (first|apply aA|apply aD|apply ay));exact xU.out⟩,⟨by repeat (first|(with_reducible first|exact HB.out|apply av|apply ak|apply au|refine aG ?_ yH.out|refine aG ?_ yO.out)|exact HB.out)⟩⟩
    ·rw [if_neg c8] at H
     have c8b0 : (yA != yF) = false:=by simpa using c8
     (try (have c8b1 : decide (yA = yF) = true:=by simpa using c8))
     (try (have c8b2 : (yA == yF) = true:=by simpa using c8))
     clear c8
     by_cases c12 : yc = 2
     ·rw [if_pos c12] at H
      have c12b0 : (yc == 2) = true:=beq_iff_eq.mpr c12
      have c12b1 : (yc != 2) = false:=bne_eq_false_iff_eq.mpr c12
      clear c12
      by_cases c13 : yw = yD
      ·rw [if_pos c13] at H
       have c13b0 : (yw == yD) = true:=beq_iff_eq.mpr c13
       have c13b1 : (yw != yD) = false:=bne_eq_false_iff_eq.mpr c13
       clear c13
       by_cases c14 : yc = 3
       ·rw [if_pos c14] at H
        have c14b0 : (yc == 3) = true:=beq_iff_eq.mpr c14
        have c14b1 : (yc != 3) = false:=bne_eq_false_iff_eq.mpr c14
        clear c14
        have H':=Aside0.mk H
        clear H
        have RI:=yB.out
        have RJ:=yC.out
        have Ii : w5.cell? ⟨xW,0,none⟩ = some (.int .i64 yc):=(ah xS.out 0).trans rfl
        have Ij : w5.cell? ⟨xW,1,none⟩ = some (.bool yA):=(ah xS.out 1).trans rfl
        have Ik : w5.cell? ⟨xW,2,none⟩ = some (.int .i64 yw):=(ah xS.out 2).trans rfl
        have Il : w5.cell? ⟨xW,3,none⟩ = some (.string yx):=(ah xS.out 3).trans rfl
        have Im : w5.cell? ⟨xW,4,none⟩ = some (.slice zi yh.length yP):=(ah xS.out 4).trans rfl
        have Io : w5.cell? ⟨xW,5,none⟩ = some (.slice zm xY.length yQ):=(ah xS.out 5).trans rfl
        have Ip:=aj xS.out 0
        have Iq:=aj xS.out 1
        have Ir:=aj xS.out 2
        have Iu:=aj xS.out 3
        have Iw:=aj xS.out 4
        have Iy:=aj xS.out 5
        have Iz : w5.cell? ⟨xX,0,none⟩ = some (.int .i64 yG):=(ah xU.out 0).trans rfl
        have IB : w5.cell? ⟨xX,1,none⟩ = some (.bool yF):=(ah xU.out 1).trans rfl
        have IC : w5.cell? ⟨xX,2,none⟩ = some (.int .i64 yD):=(ah xU.out 2).trans rfl
        have IE : w5.cell? ⟨xX,3,none⟩ = some (.string yE):=(ah xU.out 3).trans rfl
        have IG : w5.cell? ⟨xX,4,none⟩ = some (.slice zP yj.length zw):=(ah xU.out 4).trans rfl
        have II : w5.cell? ⟨xX,5,none⟩ = some (.slice Ao xZ.length zx):=(ah xU.out 5).trans rfl
        have IJ:=aj xU.out 0
        have IK:=aj xU.out 1
        have IL:=aj xU.out 2
        have IQ:=aj xU.out 3
        have IU:=aj xU.out 4
        have IV:=aj xU.out 5
        go_wp2
        go_meet
        case rel=>exact ⟨_,((yx.toList != yE.toList)),(by first|rfl|(simp;done)|(simp [*];done)),H',⟨by first|omega|exact Nat.le_refl _⟩,⟨by (with_reducible repeat (first|apply aA|apply aD|apply ay));exact xS.out⟩,⟨by (with_reducible repeat (first|apply aA|apply aD|apply ay));exact xU.out⟩,⟨by repeat (first|(with_reducible first|exact HB.out|apply av|apply ak|apply au|refine aG ?_ yH.out|refine aG ?_ yO.out)|exact HB.out)⟩⟩
       ·rw [if_neg c14] at H
        have c14b0 : (yc == 3) = false:=beq_eq_false_iff_ne.mpr c14
        have c14b1 : (yc != 3) = true:=bne_iff_ne.mpr c14
        have H':=Aside0.mk H
        clear H
        have RL:=yB.out
        have RN:=yC.out
        have IW : w5.cell? ⟨xW,0,none⟩ = some (.int .i64 yc):=(ah xS.out 0).trans rfl
        have IX : w5.cell? ⟨xW,1,none⟩ = some (.bool yA):=(ah xS.out 1).trans rfl
        have IY : w5.cell? ⟨xW,2,none⟩ = some (.int .i64 yw):=(ah xS.out 2).trans rfl
        have IZ : w5.cell? ⟨xW,3,none⟩ = some (.string yx):=(ah xS.out 3).trans rfl
        have I4 : w5.cell? ⟨xW,4,none⟩ = some (.slice zi yh.length yP):=(ah xS.out 4).trans rfl
        have I5 : w5.cell? ⟨xW,5,none⟩ = some (.slice zm xY.length yQ):=(ah xS.out 5).trans rfl
        have I6:=aj xS.out 0
        have I7:=aj xS.out 1
        have I8:=aj xS.out 2
        have I9:=aj xS.out 3
        have Ja:=aj xS.out 4
        have Jb:=aj xS.out 5
        have Jc : w5.cell? ⟨xX,0,none⟩ = some (.int .i64 yG):=(ah xU.out 0).trans rfl
        have Jd : w5.cell? ⟨xX,1,none⟩ = some (.bool yF):=(ah xU.out 1).trans rfl
        have Je : w5.cell? ⟨xX,2,none⟩ = some (.int .i64 yD):=(ah xU.out 2).trans rfl
        have Jf : w5.cell? ⟨xX,3,none⟩ = some (.string yE):=(ah xU.out 3).trans rfl
        have Jg : w5.cell? ⟨xX,4,none⟩ = some (.slice zP yj.length zw):=(ah xU.out 4).trans rfl
        have Jh : w5.cell? ⟨xX,5,none⟩ = some (.slice Ao xZ.length zx):=(ah xU.out 5).trans rfl
        have Ji:=aj xU.out 0
        have Jj:=aj xU.out 1
        have Jk:=aj xU.out 2
        have Jl:=aj xU.out 3
        have Jm:=aj xU.out 4
        have Jo:=aj xU.out 5
        go_wp2
        go_meet
        case rel=>exact ⟨_,(false),(by first|rfl|(simp;done)|(simp [*];done)),H',⟨by first|omega|exact Nat.le_refl _⟩,⟨by (with_reducible repeat (first|apply aA|apply aD|apply ay));exact xS.out⟩,⟨by (with_reducible repeat (first|apply aA|apply aD|apply ay));exact xU.out⟩,⟨by repeat (first|(with_reducible first|exact HB.out|apply av|apply ak|apply au|refine aG ?_ yH.out|refine aG ?_ yO.out)|exact HB.out)⟩⟩
      ·rw [if_neg c13] at H
       have c13b0 : (yw == yD) = false:=beq_eq_false_iff_ne.mpr c13
       have c13b1 : (yw != yD) = true:=bne_iff_ne.mpr c13
       have H':=Aside0.mk H
       clear H
       have RO:=yB.out
       have RP:=yC.out
       have Jp : w5.cell? ⟨xW,0,none⟩ = some (.int .i64 yc):=(ah xS.out 0).trans rfl
       have Jq : w5.cell? ⟨xW,1,none⟩ = some (.bool yA):=(ah xS.out 1).trans rfl
       have Jr : w5.cell? ⟨xW,2,none⟩ = some (.int .i64 yw):=(ah xS.out 2).trans rfl
       have Js : w5.cell? ⟨xW,3,none⟩ = some (.string yx):=(ah xS.out 3).trans rfl
       have Jt : w5.cell? ⟨xW,4,none⟩ = some (.slice zi yh.length yP):=(ah xS.out 4).trans rfl
       have Ju : w5.cell? ⟨xW,5,none⟩ = some (.slice zm xY.length yQ):=(ah xS.out 5).trans rfl
       have Jv:=aj xS.out 0
       have Jw:=aj xS.out 1
       have Jy:=aj xS.out 2
       have Jz:=aj xS.out 3
       have JA:=aj xS.out 4
       have JB:=aj xS.out 5
       have JC : w5.cell? ⟨xX,0,none⟩ = some (.int .i64 yG):=(ah xU.out 0).trans rfl
       have JD : w5.cell? ⟨xX,1,none⟩ = some (.bool yF):=(ah xU.out 1).trans rfl
       have JE : w5.cell? ⟨xX,2,none⟩ = some (.int .i64 yD):=(ah xU.out 2).trans rfl
       have JF : w5.cell? ⟨xX,3,none⟩ = some (.string yE):=(ah xU.out 3).trans rfl
       have JG : w5.cell? ⟨xX,4,none⟩ = some (.slice zP yj.length zw):=(ah xU.out 4).trans rfl
       have JH : w5.cell? ⟨xX,5,none⟩ = some (.slice Ao xZ.length zx):=(ah xU.out 5).trans rfl
       have JI:=aj xU.out 0
       have JJ:=aj xU.out 1
       have JK:=aj xU.out 2
       have JL:=aj xU.out 3
       have JM:=aj xU.out 4
       have JN:=aj xU.out 5
       go_wp2
       go_meet
       case rel=>exact ⟨_,(true),(by first|rfl|(simp;done)|(simp [*];done)),H',⟨by first|omega|exact Nat.le_refl _⟩,⟨by (with_reducible repeat (first|apply aA|apply aD|apply ay));exact xS.out⟩,⟨by (with_reducible repeat (first|apply aA|apply aD|apply ay));exact xU.out⟩,⟨by repeat (first|(with_reducible first|exact HB.out|apply av|apply ak|apply au|refine aG ?_ yH.out|refine aG ?_ yO.out)|exact HB.out)⟩⟩
     ·rw [if_neg c12] at H
      have c12b0 : (yc == 2) = false:=beq_eq_false_iff_ne.mpr c12
      have c12b1 : (yc != 2) = true:=bne_iff_ne.mpr c12
      by_cases c24 : yc = 3
      ·rw [if_pos c24] at H
       have c24b0 : (yc == 3) = true:=beq_iff_eq.mpr c24
       have c24b1 : (yc != 3) = false:=bne_eq_false_iff_eq.mpr c24
       clear c24
       have H':=Aside0.mk H
       clear H
       have RQ:=yB.out
       have RS:=yC.out
       have JO : w5.cell? ⟨xW,0,none⟩ = some (.int .i64 yc):=(ah xS.out 0).trans rfl
       have JQ : w5.cell? ⟨xW,1,none⟩ = some (.bool yA):=(ah xS.out 1).trans rfl
       have JR : w5.cell? ⟨xW,2,none⟩ = some (.int .i64 yw):=(ah xS.out 2).trans rfl
       have JU : w5.cell? ⟨xW,3,none⟩ = some (.string yx):=(ah xS.out 3).trans rfl
       have JV : w5.cell? ⟨xW,4,none⟩ = some (.slice zi yh.length yP):=(ah xS.out 4).trans rfl
       have JW : w5.cell? ⟨xW,5,none⟩ = some (.slice zm xY.length yQ):=(ah xS.out 5).trans rfl
       have JX:=aj xS.out 0
       have JY:=aj xS.out 1
       have JZ:=aj xS.out 2
       have J2:=aj xS.out 3
       have J3:=aj xS.out 4
       have J4:=aj xS.out 5
       have J5 : w5.cell? ⟨xX,0,none⟩ = some (.int .i64 yG):=(ah xU.out 0).trans rfl
       have J6 : w5.cell? ⟨xX,1,none⟩ = some (.bool yF):=(ah xU.out 1).trans rfl
       have J7 : w5.cell? ⟨xX,2,none⟩ = some (.int .i64 yD):=(ah xU.out 2).trans rfl
       have J8 : w5.cell? ⟨xX,3,none⟩ = some (.string yE):=(ah xU.out 3).trans rfl
       have J9 : w5.cell? ⟨xX,4,none⟩ = some (.slice zP yj.length zw):=(ah xU.out 4).trans rfl
       have Ka : w5.cell? ⟨xX,5,none⟩ = some (.slice Ao xZ.length zx):=(ah xU.out 5).trans rfl
       have Ke:=aj xU.out 0
       have Kg:=aj xU.out 1
       have Kh:=aj xU.out 2
       have Ki:=aj xU.out 3
       have Kj:=aj xU.out 4
       have Kk:=aj xU.out 5
       go_wp2
       go_meet
       case rel=>exact ⟨_,((yx.toList != yE.toList)),(by first|rfl|(simp;done)|(simp [*];done)),H',⟨by first|omega|exact Nat.le_refl _⟩,⟨by (with_reducible repeat (first|apply aA|apply aD|apply ay));exact xS.out⟩,⟨by (with_reducible repeat (first|apply aA|apply aD|apply ay));exact xU.out⟩,⟨by repeat (first|(with_reducible first|exact HB.out|apply av|apply ak|apply au|refine aG ?_ yH.out|refine aG ?_ yO.out)|exact HB.out)⟩⟩
      ·rw [if_neg c24] at H
       have c24b0 : (yc == 3) = false:=beq_eq_false_iff_ne.mpr c24
       have c24b1 : (yc != 3) = true:=bne_iff_ne.mpr c24
       have H':=Aside0.mk H
       clear H
       have RU:=yB.out
       have RV:=yC.out
       have Kl : w5.cell? ⟨xW,0,none⟩ = some (.int .i64 yc):=(ah xS.out 0).trans rfl
       have Km : w5.cell? ⟨xW,1,none⟩ = some (.bool yA):=(ah xS.out 1).trans rfl
       have Kn : w5.cell? ⟨xW,2,none⟩ = some (.int .i64 yw):=(ah xS.out 2).trans rfl
       have Ko : w5.cell? ⟨xW,3,none⟩ = some (.string yx):=(ah xS.out 3).trans rfl
       have Kq : w5.cell? ⟨xW,4,none⟩ = some (.slice zi yh.length yP):=(ah xS.out 4).trans rfl
       have Kr : w5.cell? ⟨xW,5,none⟩ = some (.slice zm xY.length yQ):=(ah xS.out 5).trans rfl
       have Kt:=aj xS.out 0
       have Ku:=aj xS.out 1
       have Kv:=aj xS.out 2
       have Kw:=aj xS.out 3
       have Ky:=aj xS.out 4
       have Kz:=aj xS.out 5
       have KA : w5.cell? ⟨xX,0,none⟩ = some (.int .i64 yG):=(ah xU.out 0).trans rfl
       have KC : w5.cell? ⟨xX,1,none⟩ = some (.bool yF):=(ah xU.out 1).trans rfl
       have KD : w5.cell? ⟨xX,2,none⟩ = some (.int .i64 yD):=(ah xU.out 2).trans rfl
       have KE : w5.cell? ⟨xX,3,none⟩ = some (.string yE):=(ah xU.out 3).trans rfl
       have KF : w5.cell? ⟨xX,4,none⟩ = some (.slice zP yj.length zw):=(ah xU.out 4).trans rfl
       have KG : w5.cell? ⟨xX,5,none⟩ = some (.slice Ao xZ.length zx):=(ah xU.out 5).trans rfl
       have KH:=aj xU.out 0
       have KI:=aj xU.out 1
       have KJ:=aj xU.out 2
       have KL:=aj xU.out 3
       have KM:=aj xU.out 4
       have KN:=aj xU.out 5
       go_wp2
       go_meet
       case rel=>exact ⟨_,(false),(by first|rfl|(simp;done)|(simp [*];done)),H',⟨by first|omega|exact Nat.le_refl _⟩,⟨by (with_reducible repeat (first|apply aA|apply aD|apply ay));exact xS.out⟩,⟨by (with_reducible repeat (first|apply aA|apply aD|apply ay));exact xU.out⟩,⟨by repeat (first|(with_reducible first|exact HB.out|apply av|apply ak|apply au|refine aG ?_ yH.out|refine aG ?_ yO.out)|exact HB.out)⟩⟩
   ·rw [if_neg c7] at H
    have c7b0 : (yc == 1) = false:=beq_eq_false_iff_ne.mpr c7
    have c7b1 : (yc != 1) = true:=bne_iff_ne.mpr c7
    by_cases c31 : yc = 2
    ·rw [if_pos c31] at H
     have c31b0 : (yc == 2) = true:=beq_iff_eq.mpr c31
     have c31b1 : (yc != 2) = false:=bne_eq_false_iff_eq.mpr c31
     clear c31
     by_cases c32 : yw = yD
     ·rw [if_pos c32] at H
      have c32b0 : (yw == yD) = true:=beq_iff_eq.mpr c32
      have c32b1 : (yw != yD) = false:=bne_eq_false_iff_eq.mpr c32
      clear c32
      by_cases EP : yc = 3
      ·rw [if_pos EP] at H
       have c33b0 : (yc == 3) = true:=beq_iff_eq.mpr EP
       have c33b1 : (yc != 3) = false:=bne_eq_false_iff_eq.mpr EP
       clear EP
       have H':=Aside0.mk H
       clear H
       have RX:=yB.out
       have RY:=yC.out
       have KO : w5.cell? ⟨xW,0,none⟩ = some (.int .i64 yc):=(ah xS.out 0).trans rfl
       have KP : w5.cell? ⟨xW,1,none⟩ = some (.bool yA):=(ah xS.out 1).trans rfl
       have KQ : w5.cell? ⟨xW,2,none⟩ = some (.int .i64 yw):=(ah xS.out 2).trans rfl
       have KR : w5.cell? ⟨xW,3,none⟩ = some (.string yx):=(ah xS.out 3).trans rfl
       have KS : w5.cell? ⟨xW,4,none⟩ = some (.slice zi yh.length yP):=(ah xS.out 4).trans rfl
       have KT : w5.cell? ⟨xW,5,none⟩ = some (.slice zm xY.length yQ):=(ah xS.out 5).trans rfl
       have KU:=aj xS.out 0
       have KV:=aj xS.out 1
       have KW:=aj xS.out 2
       have KX:=aj xS.out 3
       have KY:=aj xS.out 4
       have KZ:=aj xS.out 5
       have K3 : w5.cell? ⟨xX,0,none⟩ = some (.int .i64 yG):=(ah xU.out 0).trans rfl
       have K4 : w5.cell? ⟨xX,1,none⟩ = some (.bool yF):=(ah xU.out 1).trans rfl
       have K5 : w5.cell? ⟨xX,2,none⟩ = some (.int .i64 yD):=(ah xU.out 2).trans rfl
       have K6 : w5.cell? ⟨xX,3,none⟩ = some (.string yE):=(ah xU.out 3).trans rfl
       have K7 : w5.cell? ⟨xX,4,none⟩ = some (.slice zP yj.length zw):=(ah xU.out 4).trans rfl
       have K8 : w5.cell? ⟨xX,5,none⟩ = some (.slice Ao xZ.length zx):=(ah xU.out 5).trans rfl
       have K9:=aj xU.out 0
       have La:=aj xU.out 1
       have Lb:=aj xU.out 2
       have Lc:=aj xU.out 3
       have Ld:=aj xU.out 4
       have Le:=aj xU.out 5
       go_wp2
       go_meet
       case rel=>exact ⟨_,((yx.toList != yE.toList)),(by first|rfl|(simp;done)|(simp [*];done)),H',⟨by first|omega|exact Nat.le_refl _⟩,⟨by (with_reducible repeat (first|apply aA|apply aD|apply ay));exact xS.out⟩,⟨by (with_reducible repeat (first|apply aA|apply aD|apply ay));exact xU.out⟩,⟨by repeat (first|(with_reducible first|exact HB.out|apply av|apply ak|apply au|refine aG ?_ yH.out|refine aG ?_ yO.out)|exact HB.out)⟩⟩
      ·rw [if_neg EP] at H
       have c33b0 : (yc == 3) = false:=beq_eq_false_iff_ne.mpr EP
       have c33b1 : (yc != 3) = true:=bne_iff_ne.mpr EP
       have H':=Aside0.mk H
       clear H
       have RZ:=yB.out
       have R3:=yC.out
       have Lf : w5.cell? ⟨xW,0,none⟩ = some (.int .i64 yc):=(ah xS.out 0).trans rfl
       have Lg : w5.cell? ⟨xW,1,none⟩ = some (.bool yA):=(ah xS.out 1).trans rfl
       have Lh : w5.cell? ⟨xW,2,none⟩ = some (.int .i64 yw):=(ah xS.out 2).trans rfl
       have Li : w5.cell? ⟨xW,3,none⟩ = some (.string yx):=(ah xS.out 3).trans rfl
       have Lj : w5.cell? ⟨xW,4,none⟩ = some (.slice zi yh.length yP):=(ah xS.out 4).trans rfl
       have Ll : w5.cell? ⟨xW,5,none⟩ = some (.slice zm xY.length yQ):=(ah xS.out 5).trans rfl
       have Lm:=aj xS.out 0
       have Lp:=aj xS.out 1
       have Lr:=aj xS.out 2
       have Ls:=aj xS.out 3
       have Lu:=aj xS.out 4
       have Lv:=aj xS.out 5
       have Lx : w5.cell? ⟨xX,0,none⟩ = some (.int .i64 yG):=(ah xU.out 0).trans rfl
       have LA : w5.cell? ⟨xX,1,none⟩ = some (.bool yF):=(ah xU.out 1).trans rfl
       have LB : w5.cell? ⟨xX,2,none⟩ = some (.int .i64 yD):=(ah xU.out 2).trans rfl
       have LC : w5.cell? ⟨xX,3,none⟩ = some (.string yE):=(ah xU.out 3).trans rfl
       have LD : w5.cell? ⟨xX,4,none⟩ = some (.slice zP yj.length zw):=(ah xU.out 4).trans rfl
       have LG : w5.cell? ⟨xX,5,none⟩ = some (.slice Ao xZ.length zx):=(ah xU.out 5).trans rfl
       have LH:=aj xU.out 0
       have LJ:=aj xU.out 1
       have LK:=aj xU.out 2
       have LM:=aj xU.out 3
       have LP:=aj xU.out 4
       have LQ:=aj xU.out 5
       go_wp2
       go_meet
       case rel=>exact ⟨_,(false),(by first|rfl|(simp;done)|(simp [*];done)),H',⟨by first|omega|exact Nat.le_refl _⟩,⟨by (with_reducible repeat (first|apply aA|apply aD|apply ay));exact xS.out⟩,⟨by (with_reducible repeat (first|apply aA|apply aD|apply ay));exact xU.out⟩,⟨by repeat (first|(with_reducible first|exact HB.out|apply av|apply ak|apply au|refine aG ?_ yH.out|refine aG ?_ yO.out)|exact HB.out)⟩⟩
     ·rw [if_neg c32] at H
      have c32b0 : (yw == yD) = false:=beq_eq_false_iff_ne.mpr c32
      have c32b1 : (yw != yD) = true:=bne_iff_ne.mpr c32
      have H':=Aside0.mk H
      clear H
      have R4:=yB.out
      have R5:=yC.out
      have LU : w5.cell? ⟨xW,0,none⟩ = some (.int .i64 yc):=(ah xS.out 0).trans rfl
      have LV : w5.cell? ⟨xW,1,none⟩ = some (.bool yA):=(ah xS.out 1).trans rfl
      have LW : w5.cell? ⟨xW,2,none⟩ = some (.int .i64 yw):=(ah xS.out 2).trans rfl
      have LZ : w5.cell? ⟨xW,3,none⟩ = some (.string yx):=(ah xS.out 3).trans rfl
      have L6 : w5.cell? ⟨xW,4,none⟩ = some (.slice zi yh.length yP):=(ah xS.out 4).trans rfl
      have L8 : w5.cell? ⟨xW,5,none⟩ = some (.slice zm xY.length yQ):=(ah xS.out 5).trans rfl
      have L9:=aj xS.out 0
      have Ma:=aj xS.out 1
      have Mc:=aj xS.out 2
      have Md:=aj xS.out 3
      have Me:=aj xS.out 4
      have Mf:=aj xS.out 5
      have Mg : w5.cell? ⟨xX,0,none⟩ = some (.int .i64 yG):=(ah xU.out 0).trans rfl
      have Mh : w5.cell? ⟨xX,1,none⟩ = some (.bool yF):=(ah xU.out 1).trans rfl
      have Mi : w5.cell? ⟨xX,2,none⟩ = some (.int .i64 yD):=(ah xU.out 2).trans rfl
      have Mj : w5.cell? ⟨xX,3,none⟩ = some (.string yE):=(ah xU.out 3).trans rfl
      have Mk : w5.cell? ⟨xX,4,none⟩ = some (.slice zP yj.length zw):=(ah xU.out 4).trans rfl
      have Ml : w5.cell? ⟨xX,5,none⟩ = some (.slice Ao xZ.length zx):=(ah xU.out 5).trans rfl
      have Mq:=aj xU.out 0
      have Mr:=aj xU.out 1
      have Ms:=aj xU.out 2
      have Mt:=aj xU.out 3
      have Mv:=aj xU.out 4
      have Mw:=aj xU.out 5
      go_wp2
      go_meet
      case rel=>exact ⟨_,(true),(by first|rfl|(simp;done)|(simp [*];done)),H',⟨by first|omega|exact Nat.le_refl _⟩,⟨by (with_reducible repeat (first|apply aA|apply aD|apply ay));exact xS.out⟩,⟨by (with_reducible repeat (first|apply aA|apply aD|apply ay));exact xU.out⟩,⟨by repeat (first|(with_reducible first|exact HB.out|apply av|apply ak|apply au|refine aG ?_ yH.out|refine aG ?_ yO.out)|exact HB.out)⟩⟩
    ·rw [if_neg c31] at H
     have c31b0 : (yc == 2) = false:=beq_eq_false_iff_ne.mpr c31
     have c31b1 : (yc != 2) = true:=bne_iff_ne.mpr c31
     by_cases ER : yc = 3
     ·rw [if_pos ER] at H
      have c43b0 : (yc == 3) = true:=beq_iff_eq.mpr ER
      have c43b1 : (yc != 3) = false:=bne_eq_false_iff_eq.mpr ER
      clear ER
      have H':=Aside0.mk H
      clear H
      have R6:=yB.out
      have R7:=yC.out
      have Mx : w5.cell? ⟨xW,0,none⟩ = some (.int .i64 yc):=(ah xS.out 0).trans rfl
      have MB : w5.cell? ⟨xW,1,none⟩ = some (.bool yA):=(ah xS.out 1).trans rfl
      have MC : w5.cell? ⟨xW,2,none⟩ = some (.int .i64 yw):=(ah xS.out 2).trans rfl
      have ME : w5.cell? ⟨xW,3,none⟩ = some (.string yx):=(ah xS.out 3).trans rfl
      have MF : w5.cell? ⟨xW,4,none⟩ = some (.slice zi yh.length yP):=(ah xS.out 4).trans rfl
      have MG : w5.cell? ⟨xW,5,none⟩ = some (.slice zm xY.length yQ):=(ah xS.out 5).trans rfl
      have MH:=aj xS.out 0
      have MI:=aj xS.out 1
      have MJ:=aj xS.out 2
      have MK:=aj xS.out 3
      have ML:=aj xS.out 4
      have MN:=aj xS.out 5
      have MO : w5.cell? ⟨xX,0,none⟩ = some (.int .i64 yG):=(ah xU.out 0).trans rfl
      have MP : w5.cell? ⟨xX,1,none⟩ = some (.bool yF):=(ah xU.out 1).trans rfl
      have MQ : w5.cell? ⟨xX,2,none⟩ = some (.int .i64 yD):=(ah xU.out 2).trans rfl
      have MR : w5.cell? ⟨xX,3,none⟩ = some (.string yE):=(ah xU.out 3).trans rfl
      have MS : w5.cell? ⟨xX,4,none⟩ = some (.slice zP yj.length zw):=(ah xU.out 4).trans rfl
      have MU : w5.cell? ⟨xX,5,none⟩ = some (.slice Ao xZ.length zx):=(ah xU.out 5).trans rfl
      have MV:=aj xU.out 0
      have MW:=aj xU.out 1
      have MX:=aj xU.out 2
      have MZ:=aj xU.out 3
      have M0:=aj xU.out 4
      have M4:=aj xU.out 5
      go_wp2
      go_meet
      case rel=>exact ⟨_,((yx.toList != yE.toList)),(by first|rfl|(simp;done)|(simp [*];done)),H',⟨by first|omega|exact Nat.le_refl _⟩,⟨by (with_reducible repeat (first|apply aA|apply aD|apply ay));exact xS.out⟩,⟨by (with_reducible repeat (first|apply aA|apply aD|apply ay));exact xU.out⟩,⟨by repeat (first|(with_reducible first|exact HB.out|apply av|apply ak|apply au|refine aG ?_ yH.out|refine aG ?_ yO.out)|exact HB.out)⟩⟩
     ·rw [if_neg ER] at H
      have c43b0 : (yc == 3) = false:=beq_eq_false_iff_ne.mpr ER
      have c43b1 : (yc != 3) = true:=bne_iff_ne.mpr ER
      have H':=Aside0.mk H
      clear H
      have R8:=yB.out
      have R9:=yC.out
      have M5 : w5.cell? ⟨xW,0,none⟩ = some (.int .i64 yc):=(ah xS.out 0).trans rfl
      have M6 : w5.cell? ⟨xW,1,none⟩ = some (.bool yA):=(ah xS.out 1).trans rfl
      have M7 : w5.cell? ⟨xW,2,none⟩ = some (.int .i64 yw):=(ah xS.out 2).trans rfl
      have M8 : w5.cell? ⟨xW,3,none⟩ = some (.string yx):=(ah xS.out 3).trans rfl
      have M9 : w5.cell? ⟨xW,4,none⟩ = some (.slice zi yh.length yP):=(ah xS.out 4).trans rfl
      have Na : w5.cell? ⟨xW,5,none⟩ = some (.slice zm xY.length yQ):=(ah xS.out 5).trans rfl
      have Nb:=aj xS.out 0
      have Nc:=aj xS.out 1
      have Nf:=aj xS.out 2
      have Ng:=aj xS.out 3
      have Nh:=aj xS.out 4
      have Nk:=aj xS.out 5
      have Nl : w5.cell? ⟨xX,0,none⟩ = some (.int .i64 yG):=(ah xU.out 0).trans rfl
      have Nn : w5.cell? ⟨xX,1,none⟩ = some (.bool yF):=(ah xU.out 1).trans rfl
      have Np : w5.cell? ⟨xX,2,none⟩ = some (.int .i64 yD):=(ah xU.out 2).trans rfl
      have Nq : w5.cell? ⟨xX,3,none⟩ = some (.string yE):=(ah xU.out 3).trans rfl
      have Nr : w5.cell? ⟨xX,4,none⟩ = some (.slice zP yj.length zw):=(ah xU.out 4).trans rfl
      have Ns : w5.cell? ⟨xX,5,none⟩ = some (.slice Ao xZ.length zx):=(ah xU.out 5).trans rfl
      have Nt:=aj xU.out 0
      have Nu:=aj xU.out 1
      have Nv:=aj xU.out 2
      have Nw:=aj xU.out 3
      have Ny:=aj xU.out 4
      have Nz:=aj xU.out 5
      go_wp2
      go_meet
      case rel=>exact ⟨_,(false),(by first|rfl|(simp;done)|(simp [*];done)),H',⟨by first|omega|exact Nat.le_refl _⟩,⟨by (with_reducible repeat (first|apply aA|apply aD|apply ay));exact xS.out⟩,⟨by (with_reducible repeat (first|apply aA|apply aD|apply ay));exact xU.out⟩,⟨by repeat (first|(with_reducible first|exact HB.out|apply av|apply ak|apply au|refine aG ?_ yH.out|refine aG ?_ yO.out)|exact HB.out)⟩⟩
  ·rw [if_neg c6] at H
   have c6b0 : (yc == yG) = false:=beq_eq_false_iff_ne.mpr c6
   have c6b1 : (yc != yG) = true:=bne_iff_ne.mpr c6
   (first|rw [c6b0]|(simp only [aT,aU];rw [c6b0])|skip)
   have H':=Aside0.mk H
   clear H
   have Sb:=yB.out
   have Sc:=yC.out
   have NC : w5.cell? ⟨xW,0,none⟩ = some (.int .i64 yc):=(ah xS.out 0).trans rfl
   have ND : w5.cell? ⟨xW,1,none⟩ = some (.bool yA):=(ah xS.out 1).trans rfl
   have NG : w5.cell? ⟨xW,2,none⟩ = some (.int .i64 yw):=(ah xS.out 2).trans rfl
   have NH : w5.cell? ⟨xW,3,none⟩ = some (.string yx):=(ah xS.out 3).trans rfl
   have NI : w5.cell? ⟨xW,4,none⟩ = some (.slice zi yh.length yP):=(ah xS.out 4).trans rfl
   have NJ : w5.cell? ⟨xW,5,none⟩ = some (.slice zm xY.length yQ):=(ah xS.out 5).trans rfl
   have NK:=aj xS.out 0
   have NM:=aj xS.out 1
   have NP:=aj xS.out 2
   have NQ:=aj xS.out 3
   have NR:=aj xS.out 4
   have NS:=aj xS.out 5
   have NT : w5.cell? ⟨xX,0,none⟩ = some (.int .i64 yG):=(ah xU.out 0).trans rfl
   have NU : w5.cell? ⟨xX,1,none⟩ = some (.bool yF):=(ah xU.out 1).trans rfl
   have NV : w5.cell? ⟨xX,2,none⟩ = some (.int .i64 yD):=(ah xU.out 2).trans rfl
   have NW : w5.cell? ⟨xX,3,none⟩ = some (.string yE):=(ah xU.out 3).trans rfl
   have NY : w5.cell? ⟨xX,4,none⟩ = some (.slice zP yj.length zw):=(ah xU.out 4).trans rfl
   have NZ : w5.cell? ⟨xX,5,none⟩ = some (.slice Ao xZ.length zx):=(ah xU.out 5).trans rfl
   have N7:=aj xU.out 0
   have N8:=aj xU.out 1
   have N9:=aj xU.out 2
   have Oa:=aj xU.out 3
   have Ob:=aj xU.out 4
   have Oc:=aj xU.out 5
   go_wp2
   go_meet
   case rel=>exact ⟨_,(true),(by first|rfl|(simp;done)|(simp [*];done)),H',⟨by first|omega|exact Nat.le_refl _⟩,⟨by (with_reducible repeat (first|apply aA|apply aD|apply ay));exact xS.out⟩,⟨by (with_reducible repeat (first|apply aA|apply aD|apply ay));exact xU.out⟩,⟨by repeat (first|(with_reducible first|exact HB.out|apply av|apply ak|apply au|refine aG ?_ yH.out|refine aG ?_ yO.out)|exact HB.out)⟩⟩
 case rest =>
  clear Rp
  obtain ⟨kq,Em,rfl,HA,HJ2,xS,xU,HB⟩:=hcut
  cases kq with
  | zero=>exact absurd HA.out (by simp [aJ.j0])
  | succ Fw =>
   have H:=HA.out
   clear HA
   simp only [aJ.j0] at H
   by_cases c53 : Em = true
   ·subst c53
    have H1 : (some false) = some r:=by rw [if_pos rfl] at H;exact H
    clear H
    have H:=H1
    clear H1
    obtain rfl:=Option.some.inj H
    go_wp2
    go_ret
    exact ⟨by first|rfl|(simp [aX,aY] <;> rfl)|(simp [*,aX,aY] <;> rfl),by repeat (first|(with_reducible first|exact HB.out|apply av|apply ak|apply au|refine aG ?_ yH.out|refine aG ?_ yO.out)|exact HB.out)⟩
   ·replace c53:=Bool.eq_false_iff.mpr c53
    subst c53
    have H1 : (if yc = 4 then (if (yh.length : Int) = (yj.length : Int) then (aJ.l0 Fw 0 yc yA yw yx yh xY yG yF yD yE yj xZ) else (some false)) else (aJ.j2 Fw yc yA yw yx yh xY yG yF yD yE yj xZ)) = some r:=by rw [if_neg (show ¬ (false = true) by decide)] at H;exact H
    clear H
    have H:=H1
    clear H1
    have ES:=Aside0.mk H
    clear H
    have Sd:=yB.out
    have Sg:=yC.out
    have Od : wc.cell? ⟨xW,0,none⟩ = some (.int .i64 yc):=(ah xS.out 0).trans rfl
    have Oe : wc.cell? ⟨xW,1,none⟩ = some (.bool yA):=(ah xS.out 1).trans rfl
    have Og : wc.cell? ⟨xW,2,none⟩ = some (.int .i64 yw):=(ah xS.out 2).trans rfl
    have Oh : wc.cell? ⟨xW,3,none⟩ = some (.string yx):=(ah xS.out 3).trans rfl
    have Oi : wc.cell? ⟨xW,4,none⟩ = some (.slice zi yh.length yP):=(ah xS.out 4).trans rfl
    have Oj : wc.cell? ⟨xW,5,none⟩ = some (.slice zm xY.length yQ):=(ah xS.out 5).trans rfl
    have Ol:=aj xS.out 0
    have Om:=aj xS.out 1
    have Oo:=aj xS.out 2
    have Oq:=aj xS.out 3
    have Ot:=aj xS.out 4
    have Ou:=aj xS.out 5
    go_upto_if 50 with (fail)
    go_cut [] (fun wc=>∃ (kq : Nat),Aside0 (aJ.j2 kq yc yA yw yx yh xY yG yF yD yE yj xZ = some r) ∧ Aside0 (kq ≤ Fw) ∧ Aside0 (wc.heap[xW]? = some (.cells #[.int .i64 yc,.bool yA,.int .i64 yw,.string yx,(.slice zi yh.length yP),(.slice zm xY.length yQ)] 33 (0,0))) ∧ Aside0 (wc.heap[xX]? = some (.cells #[.int .i64 yG,.bool yF,.int .i64 yD,.string yE,(.slice zP yj.length zw),(.slice Ao xZ.length zx)] 33 (0,0))) ∧ Aside0 (Below w.heap.size w wc))
    case first =>
     have H:=ES.out
     clear ES
     by_cases ET : yc = 4
     ·rw [if_pos ET] at H
      have c57b0 : (yc == 4) = true:=beq_iff_eq.mpr ET
      have c57b1 : (yc != 4) = false:=bne_eq_false_iff_eq.mpr ET
      clear ET
      (first|rw [c57b0]|(simp only [aT,aU];rw [c57b0])|skip)
      by_cases EF : (yh.length : Int) = (yj.length : Int)
      ·rw [if_pos EF] at H
       have c58b0 : ((yh.length : Int) == (yj.length : Int)) = true:=beq_iff_eq.mpr EF
       have c58b1 : ((yh.length : Int) != (yj.length : Int)) = false:=bne_eq_false_iff_eq.mpr EF
       have c58b2 : (yh.length == yj.length) = true:=by first|simpa using EF|(simp at EF ⊢;omega)
       clear EF
       have H':=Aside0.mk H
       clear H
       have Si:=yB.out
       have Sj:=yC.out
       have Ov : wc.cell? ⟨xW,0,none⟩ = some (.int .i64 yc):=(ah xS.out 0).trans rfl
       have Ow : wc.cell? ⟨xW,1,none⟩ = some (.bool yA):=(ah xS.out 1).trans rfl
       have Ox : wc.cell? ⟨xW,2,none⟩ = some (.int .i64 yw):=(ah xS.out 2).trans rfl
       have Oy : wc.cell? ⟨xW,3,none⟩ = some (.string yx):=(ah xS.out 3).trans rfl
       have Oz : wc.cell? ⟨xW,4,none⟩ = some (.slice zi yh.length yP):=(ah xS.out 4).trans rfl
       have OA : wc.cell? ⟨xW,5,none⟩ = some (.slice zm xY.length yQ):=(ah xS.out 5).trans rfl
       have OB:=aj xS.out 0
       have OC:=aj xS.out 1
       have OD:=aj xS.out 2
       have OE:=aj xS.out 3
       have OG:=aj xS.out 4
       have OH:=aj xS.out 5
       have OI : wc.cell? ⟨xX,0,none⟩ = some (.int .i64 yG):=(ah xU.out 0).trans rfl
       have OJ : wc.cell? ⟨xX,1,none⟩ = some (.bool yF):=(ah xU.out 1).trans rfl
       have OL : wc.cell? ⟨xX,2,none⟩ = some (.int .i64 yD):=(ah xU.out 2).trans rfl
       have OM : wc.cell? ⟨xX,3,none⟩ = some (.string yE):=(ah xU.out 3).trans rfl
       have OO : wc.cell? ⟨xX,4,none⟩ = some (.slice zP yj.length zw):=(ah xU.out 4).trans rfl
       have OP : wc.cell? ⟨xX,5,none⟩ = some (.slice Ao xZ.length zx):=(ah xU.out 5).trans rfl
       have OQ:=aj xU.out 0
       have OT:=aj xU.out 1
       have OU:=aj xU.out 2
       have OV:=aj xU.out 3
       have OW:=aj xU.out 4
       have OX:=aj xU.out 5
       go_wp2
       go_loopg [5] Fw (fun kq v5 w'=>∃ (yg : Int),v5 = .int .i64 yg ∧ Aside0 (aJ.l0 kq yg yc yA yw yx yh xY yG yF yD yE yj xZ = some r) ∧ Aside0 (kq ≤ Fw) ∧ Aside0 (w'.heap[xW]? = some (.cells #[.int .i64 yc,.bool yA,.int .i64 yw,.string yx,(.slice zi yh.length yP),(.slice zm xY.length yQ)] 33 (0,0))) ∧ Aside0 (w'.heap[xX]? = some (.cells #[.int .i64 yG,.bool yF,.int .i64 yD,.string yE,(.slice zP yj.length zw),(.slice Ao xZ.length zx)] 33 (0,0))) ∧ Aside0 (Below w.heap.size w w'))
       case atStart=>exact ⟨(0),(by first|rfl|(simp;done)|(simp [*];done)),H',⟨Nat.le_refl _⟩,⟨by (with_reducible repeat (first|apply aA|apply aD|apply ay));exact xS.out⟩,⟨by (with_reducible repeat (first|apply aA|apply aD|apply ay));exact xU.out⟩,⟨by repeat (first|(with_reducible first|exact HB.out|apply av|apply ak|apply au|refine aG ?_ yH.out|refine aG ?_ yO.out)|exact HB.out)⟩⟩
       case round =>
        clear H'
        obtain ⟨yg,rfl,HA,Fx,xS,xU,HB⟩:=hrel
        cases gk with
        | zero=>exact absurd HA.out (by simp [aJ.l0])
        | succ k2 =>
         have H:=HA.out
         clear HA
         simp only [aJ.l0] at H
         by_cases Fu : yg < (yh.length : Int)
         ·rw [if_pos Fu] at H
          have c62b0 : decide (yg < (yh.length : Int)) = true:=decide_eq_true Fu
          clear Fu
          by_cases OY : 0 ≤ yg
          ·rw [if_pos OY] at H
           have c63b0 : decide (0 ≤ yg) = true:=decide_eq_true OY
           clear OY
           by_cases c64 : yg < (yj.length : Int)
           ·rw [if_pos c64] at H
            have c64b0 : decide (yg < (yj.length : Int)) = true:=decide_eq_true c64
            clear c64
            replace H:=Option.bind_eq_some_iff.mp H
            obtain ⟨EL,Fy,H⟩:=H
            replace H : (if EL = true then (aJ.l0 k2 (wrap64 (yg + 1)) yc yA yw yx yh xY yG yF yD yE yj xZ) else (some false)) = some r:=H
            have Sk:=Aside0.mk Fy
            clear Fy
            by_cases OZ : EL = true
            ·subst OZ
             have H1 : (aJ.l0 k2 (wrap64 (yg + 1)) yc yA yw yx yh xY yG yF yD yE yj xZ) = some r:=by rw [if_pos rfl] at H;exact H
             clear H
             have H:=H1
             clear H1
             have H':=Aside0.mk H
             clear H
             have Sl:=yB.out
             have Sm:=yC.out
             have O1 : wr.cell? ⟨xW,0,none⟩ = some (.int .i64 yc):=(ah xS.out 0).trans rfl
             have O4 : wr.cell? ⟨xW,1,none⟩ = some (.bool yA):=(ah xS.out 1).trans rfl
             have O5 : wr.cell? ⟨xW,2,none⟩ = some (.int .i64 yw):=(ah xS.out 2).trans rfl
             have O6 : wr.cell? ⟨xW,3,none⟩ = some (.string yx):=(ah xS.out 3).trans rfl
             have O7 : wr.cell? ⟨xW,4,none⟩ = some (.slice zi yh.length yP):=(ah xS.out 4).trans rfl
             have O8 : wr.cell? ⟨xW,5,none⟩ = some (.slice zm xY.length yQ):=(ah xS.out 5).trans rfl
             have O9:=aj xS.out 0
             have Pb:=aj xS.out 1
             have Pf:=aj xS.out 2
             have Pg:=aj xS.out 3
             have Ph:=aj xS.out 4
             have Pj:=aj xS.out 5
             try go_wp2
             have BQ:=Aside0.mk (aD xS.out)
             have BR:=Aside0.mk (aD xU.out)
             have BS:=Aside0.mk (au HB.out)
             clear xS
             clear xU
             clear HB
             have xS:=BQ
             have xU:=BR
             have HB:=BS
             clear BQ BR BS
             have DR : 0 ≤ (yg : Int):=of_decide_eq_true (by first|(with_reducible assumption)|assumption)
             have DT : yg < (yh.length : Int):=of_decide_eq_true (by first|(with_reducible assumption)|assumption)
             obtain ⟨zk,CX,CY,CZ,C8,EU,zQ,zR,zS,zT,zU,zV,BU,BZ,Ca,Cb⟩:=oD EN.out yg DR DT
             have AJ:=zV
             have AL:=zU
             have AO:=zT
             have AP:=zS
             have AQ:=zR
             have AU:=zQ
             cases EU
             replace zQ:=(HB.out.cell (World.block_lt_of_cell? w _ zQ)).trans zQ
             replace zR:=(HB.out.cell (World.block_lt_of_cell? w _ zR)).trans zR
             replace zS:=(HB.out.cell (World.block_lt_of_cell? w _ zS)).trans zS
             replace zT:=(HB.out.cell (World.block_lt_of_cell? w _ zT)).trans zT
             replace zU:=(HB.out.cell (World.block_lt_of_cell? w _ zU)).trans zU
             replace zV:=(HB.out.cell (World.block_lt_of_cell? w _ zV)).trans zV
             have Cc:=Aside0.mk BZ
             have Dw:=Aside0.mk BU
             clear BZ BU
             have Ce:=Aside0.mk Cb
             have Dx:=Aside0.mk Ca
             clear Cb Ca
             replace DR:=eq_true DR
             replace DT:=eq_true DT
             have DU : 0 ≤ (yg : Int):=of_decide_eq_true (by first|(with_reducible assumption)|assumption)
             have DV : yg < (yj.length : Int):=of_decide_eq_true (by first|(with_reducible assumption)|assumption)
             obtain ⟨zl,C9,Da,Db,Dc,EW,zW,zX,zY,zZ,z8,Ac,Cg,Ch,Ci,Cj⟩:=oD EO.out yg DU DV
             have AV:=Ac
             have AX:=z8
             have AY:=zZ
             have AZ:=zY
             have Ba:=zX
             have Bb:=zW
             cases EW
             replace zW:=(HB.out.cell (World.block_lt_of_cell? w _ zW)).trans zW
             replace zX:=(HB.out.cell (World.block_lt_of_cell? w _ zX)).trans zX
             replace zY:=(HB.out.cell (World.block_lt_of_cell? w _ zY)).trans zY
             replace zZ:=(HB.out.cell (World.block_lt_of_cell? w _ zZ)).trans zZ
             replace z8:=(HB.out.cell (World.block_lt_of_cell? w _ z8)).trans z8
             replace Ac:=(HB.out.cell (World.block_lt_of_cell? w _ Ac)).trans Ac
             have Ck:=Aside0.mk Ch
             have Dy:=Aside0.mk Cg
             clear Ch Cg
             have Cm:=Aside0.mk Cj
             have Dz:=Aside0.mk Ci
             clear Cj Ci
             replace DU:=eq_true DU
             replace DV:=eq_true DV
             refine iE (n:=12) (S:=fun w'=>w'.cell? ⟨xW,0,none⟩ = some (.int .i64 yc) ∧ w'.cell? ⟨xW,1,none⟩ = some (.bool yA) ∧ w'.cell? ⟨xW,2,none⟩ = some (.int .i64 yw) ∧ w'.cell? ⟨xW,3,none⟩ = some (.string yx) ∧ w'.cell? ⟨xW,4,none⟩ = some (.slice (some zk) yh.length yP) ∧ w'.cell? ⟨xW,5,none⟩ = some (.slice zm xY.length yQ) ∧ w'.cell? ⟨xX,0,none⟩ = some (.int .i64 yG) ∧ w'.cell? ⟨xX,1,none⟩ = some (.bool yF) ∧ w'.cell? ⟨xX,2,none⟩ = some (.int .i64 yD) ∧ w'.cell? ⟨xX,3,none⟩ = some (.string yE) ∧ w'.cell? ⟨xX,4,none⟩ = some (.slice (some zl) yj.length zw) ∧ w'.cell? ⟨xX,5,none⟩ = some (.slice Ao xZ.length zx) ∧ w'.cell? (zk.add ((yg).toNat * 6)) = some (.int .i64 ((bG yh yg).f0)) ∧ w'.cell? ⟨(zk.add ((yg).toNat * 6)).block,(zk.add ((yg).toNat * 6)).off + 1,none⟩ = some (.bool ((bG yh yg).f1)) ∧ w'.cell? ⟨(zk.add ((yg).toNat * 6)).block,(zk.add ((yg).toNat * 6)).off + 2,none⟩ = some (.int .i64 ((bG yh yg).f2)) ∧ w'.cell? ⟨(zk.add ((yg).toNat * 6)).block,(zk.add ((yg).toNat * 6)).off + 3,none⟩ = some (.string ((bG yh yg).f3)) ∧ w'.cell? ⟨(zk.add ((yg).toNat * 6)).block,(zk.add ((yg).toNat * 6)).off + 4,none⟩ = some (.slice CX ((bG yh yg).f4).length CY) ∧ w'.cell? ⟨(zk.add ((yg).toNat * 6)).block,(zk.add ((yg).toNat * 6)).off + 5,none⟩ = some (.slice CZ ((bG yh yg).f5).length C8) ∧ w'.cell? (zl.add ((yg).toNat * 6)) = some (.int .i64 ((bG yj yg).f0)) ∧ w'.cell? ⟨(zl.add ((yg).toNat * 6)).block,(zl.add ((yg).toNat * 6)).off + 1,none⟩ = some (.bool ((bG yj yg).f1)) ∧ w'.cell? ⟨(zl.add ((yg).toNat * 6)).block,(zl.add ((yg).toNat * 6)).off + 2,none⟩ = some (.int .i64 ((bG yj yg).f2)) ∧ w'.cell? ⟨(zl.add ((yg).toNat * 6)).block,(zl.add ((yg).toNat * 6)).off + 3,none⟩ = some (.string ((bG yj yg).f3)) ∧ w'.cell? ⟨(zl.add ((yg).toNat * 6)).block,(zl.add ((yg).toNat * 6)).off + 4,none⟩ = some (.slice C9 ((bG yj yg).f4).length Da) ∧ w'.cell? ⟨(zl.add ((yg).toNat * 6)).block,(zl.add ((yg).toNat * 6)).off + 5,none⟩ = some (.slice Db ((bG yj yg).f5).length Dc)) (ds:=[]) #[false,false,false,false,false,false,false,false,false,false,false,false] (by kernel_rfl) rfl rfl ⟨(ah xS.out 0).trans rfl,(ah xS.out 1).trans rfl,(ah xS.out 2).trans rfl,(ah xS.out 3).trans rfl,(ah xS.out 4).trans rfl,(ah xS.out 5).trans rfl,(ah xU.out 0).trans rfl,(ah xU.out 1).trans rfl,(ah xU.out 2).trans rfl,(ah xU.out 3).trans rfl,(ah xU.out 4).trans rfl,(ah xU.out 5).trans rfl,((HB.out.cell (World.block_lt_of_cell? w _ AU)).trans AU),((HB.out.cell (World.block_lt_of_cell? w _ AQ)).trans AQ),((HB.out.cell (World.block_lt_of_cell? w _ AP)).trans AP),((HB.out.cell (World.block_lt_of_cell? w _ AO)).trans AO),((HB.out.cell (World.block_lt_of_cell? w _ AL)).trans AL),((HB.out.cell (World.block_lt_of_cell? w _ AJ)).trans AJ),((HB.out.cell (World.block_lt_of_cell? w _ Bb)).trans Bb),((HB.out.cell (World.block_lt_of_cell? w _ Ba)).trans Ba),((HB.out.cell (World.block_lt_of_cell? w _ AZ)).trans AZ),((HB.out.cell (World.block_lt_of_cell? w _ AY)).trans AY),((HB.out.cell (World.block_lt_of_cell? w _ AX)).trans AX),((HB.out.cell (World.block_lt_of_cell? w _ AV)).trans AV)⟩ (fun hHeld=>?_);refine fB aJ.wS aJ.u7 (fun HT_ HW_=>?_)
             generalize wr.drew = SX at xS xU HB Cc Ce Ck Cm zQ zR zS zT zU zV zW zX zY zZ z8 Ac hHeld ⊢
             refine bE (i:=0) (N:=some 65) (v:=?_) (a':=?_) #[true,false,false,false,false,false,false,false,false,false,false,false] rfl rfl (bg HT_.out (by kernel_rfl)) (fun _ _ _ h=>h) (Or.inl ⟨by rfl,?_⟩) ?_ ?_
             rotate_left
             ·intro w'
              go_simp
              with_reducible rfl
             rotate_left
             ·simp only [Act.put,List.setIfInBounds_toArray,List.set_cons_zero,List.set_cons_succ,aT,aU]
              rfl
             refine bE (i:=2) (N:=some 67) (v:=?_) (a':=?_) #[true,false,true,false,false,false,false,false,false,false,false,false] rfl rfl (bg HT_.out (by kernel_rfl)) (fun _ _ _ h=>h) (Or.inl ⟨by rfl,?_⟩) ?_ ?_
             rotate_left
             ·intro w'
              go_simp
              with_reducible rfl
             rotate_left
             ·simp only [Act.put,List.setIfInBounds_toArray,List.set_cons_zero,List.set_cons_succ,aT,aU]
              rfl
             refine bE (i:=5) (N:=some 70) (v:=?_) (a':=?_) #[true,false,true,false,false,true,false,false,false,false,false,false] rfl rfl (bg HT_.out (by kernel_rfl)) (fun _ _ _ h=>h) (Or.inl ⟨by rfl,?_⟩) ?_ ?_
             rotate_left
             ·intro w'
              go_simp
              with_reducible rfl
             rotate_left
             ·simp only [Act.put,List.setIfInBounds_toArray,List.set_cons_zero,List.set_cons_succ,aT,aU]
              rfl
             refine bE (i:=7) (N:=some 72) (v:=?_) (a':=?_) #[true,false,true,false,false,true,false,true,false,false,false,false] rfl rfl (bg HT_.out (by kernel_rfl)) (fun _ _ _ h=>h) (Or.inl ⟨by rfl,?_⟩) ?_ ?_
             rotate_left
             ·intro w'
              go_simp
              with_reducible rfl
             rotate_left
             ·simp only [Act.put,List.setIfInBounds_toArray,List.set_cons_zero,List.set_cons_succ,aT,aU]
              rfl
             refine dI (i:=1) (N:=some 66) (v:=?_) (a':=?_) #[true,true,true,false,false,true,false,true,false,false,false,false] rfl rfl (bU HT_.out HW_.out (by kernel_rfl)) (fun _ _ _ h=>h) (Or.inl ⟨by rfl,?_⟩) hHeld ?_ ?_
             rotate_left
             ·rintro w' ⟨s0,s1,s2,s3,s4,s5,s6,s7,s8,s9,s10,s11,s12,s13,CO,s15,s16,CP,CQ,CS,s20,CU,CV,CW⟩
              go_simp
              with_reducible rfl
             rotate_left
             ·simp only [Act.put,List.setIfInBounds_toArray,List.set_cons_zero,List.set_cons_succ,aT,aU]
              rfl
             refine bE (i:=3) (N:=some 68) (v:=?_) (a':=?_) #[true,true,true,true,false,true,false,true,false,false,false,false] rfl rfl (bg HT_.out (by kernel_rfl)) (fun _ _ _ h=>h) (Or.inl ⟨by rfl,?_⟩) ?_ ?_
             rotate_left
             ·intro w'
              go_simp
              with_reducible rfl
             rotate_left
             ·simp only [Act.put,List.setIfInBounds_toArray,List.set_cons_zero,List.set_cons_succ,aT,aU]
              rfl
             refine dI (i:=4) (N:=some 69) (v:=?_) (a':=?_) #[true,true,true,true,true,true,false,true,false,false,false,false] rfl rfl (bU HT_.out HW_.out (by kernel_rfl)) (fun _ _ _ h=>h) (Or.inl ⟨by rfl,?_⟩) hHeld ?_ ?_
             rotate_left
             ·rintro w' ⟨s0,s1,s2,s3,s4,s5,s6,s7,s8,s9,s10,s11,s12,s13,CO,s15,s16,CP,CQ,CS,s20,CU,CV,CW⟩
              go_simp
              with_reducible rfl
             rotate_left
             ·simp only [Act.put,List.setIfInBounds_toArray,List.set_cons_zero,List.set_cons_succ,aT,aU]
              rfl
             refine dI (i:=6) (N:=some 71) (v:=?_) (a':=?_) #[true,true,true,true,true,true,true,true,false,false,false,false] rfl rfl (bU HT_.out HW_.out (by kernel_rfl)) (fun _ _ _ h=>h) (Or.inl ⟨by rfl,?_⟩) hHeld ?_ ?_
             rotate_left
             ·rintro w' ⟨s0,s1,s2,s3,s4,s5,s6,s7,s8,s9,s10,s11,s12,s13,CO,s15,s16,CP,CQ,CS,s20,CU,CV,CW⟩
              go_simp
              with_reducible rfl
             rotate_left
             ·simp only [Act.put,List.setIfInBounds_toArray,List.set_cons_zero,List.set_cons_succ,aT,aU]
              rfl
             refine bE (i:=8) (N:=some 73) (v:=?_) (a':=?_) #[true,true,true,true,true,true,true,true,true,false,false,false] rfl rfl (bg HT_.out (by kernel_rfl)) (fun _ _ _ h=>h) (Or.inl ⟨by rfl,?_⟩) ?_ ?_
             rotate_left
             ·intro w'
              go_simp
              with_reducible rfl
             rotate_left
             ·simp only [Act.put,List.setIfInBounds_toArray,List.set_cons_zero,List.set_cons_succ,aT,aU]
              rfl
             refine dI (i:=9) (N:=some 74) (v:=?_) (a':=?_) #[true,true,true,true,true,true,true,true,true,true,false,false] rfl rfl (bU HT_.out HW_.out (by kernel_rfl)) (fun _ _ _ h=>h) (Or.inl ⟨by rfl,?_⟩) hHeld ?_ ?_
             rotate_left
             ·rintro w' ⟨s0,s1,s2,s3,s4,s5,s6,s7,s8,s9,s10,s11,s12,s13,CO,s15,s16,CP,CQ,CS,s20,CU,CV,CW⟩
              go_simp
              with_reducible rfl
             rotate_left
             ·simp only [Act.put,List.setIfInBounds_toArray,List.set_cons_zero,List.set_cons_succ,aT,aU]
              rfl
             refine fM (i:=10) (N:=some 75) #[true,true,true,true,true,true,true,true,true,true,true,false] rfl rfl (dx HT_.out (by kernel_rfl)) (by decide) (fun K hK=>?_)
             refine gq Tryd.func13 (by kernel_rfl) rfl #[.agg #[.int .i64 ((bG yh yg).f0),.bool ((bG yh yg).f1),.int .i64 ((bG yh yg).f2),.string ((bG yh yg).f3),.slice CX ((bG yh yg).f4).length CY,.slice CZ ((bG yh yg).f5).length C8],.agg #[.int .i64 ((bG yj yg).f0),.bool ((bG yj yg).f1),.int .i64 ((bG yj yg).f2),.string ((bG yj yg).f3),.slice C9 ((bG yj yg).f4).length Da,.slice Db ((bG yj yg).f5).length Dc]] (by rfl) rfl rfl (by (try simp only [List.map_toArray,List.map_cons,List.map_nil]);first|done|rfl|(simp only [List.length_drop,List.length_take];rfl)) ?_
             with_reducible refine (ih k2 (by have:=HJ2.out;have:=Fx.out;omega) ((bG yh yg).f0) ((bG yh yg).f1) ((bG yh yg).f2) ((bG yh yg).f3) _ _ ((bG yh yg).f4) _ _ ((bG yh yg).f5) ((bG yj yg).f0) ((bG yj yg).f1) ((bG yj yg).f2) ((bG yj yg).f3) _ _ ((bG yj yg).f4) _ _ ((bG yj yg).f5) true _ ?Df ?Dh ?Di ?Dj ?Dk ?Dl ?Dm ?Dn Sk.out).mono ?_
             (case Df=>repeat (first|exact (Kd.bQ Cc.out HB.out)|(with_reducible refine Kd.bW ?_ _)|(with_reducible refine Kd.bX ?_ _)|(with_reducible refine Kd.dh ?_)))
             (case Dh=>exact Dw.out)
             (case Di=>repeat (first|exact (Kd.bQ Ce.out HB.out)|(with_reducible refine Kd.bW ?_ _)|(with_reducible refine Kd.bX ?_ _)|(with_reducible refine Kd.dh ?_)))
             (case Dj=>exact Dx.out)
             (case Dk=>repeat (first|exact (Kd.bQ Ck.out HB.out)|(with_reducible refine Kd.bW ?_ _)|(with_reducible refine Kd.bX ?_ _)|(with_reducible refine Kd.dh ?_)))
             (case Dl=>exact Dy.out)
             (case Dm=>repeat (first|exact (Kd.bQ Cm.out HB.out)|(with_reducible refine Kd.bW ?_ _)|(with_reducible refine Kd.bX ?_ _)|(with_reducible refine Kd.dh ?_)))
             (case Dn=>exact Dz.out)
             rintro e SY ⟨rfl,hb⟩
             refine ⟨_,rfl,?_⟩
             have BQ:=Aside0.mk (aI (g:=xW) (o:=.cells #[.int .i64 yc,.bool yA,.int .i64 yw,.string yx,.slice (some zk) yh.length yP,.slice zm xY.length yQ] 33 (0,0)) (bk_ xS.out) hb)
             have BR:=Aside0.mk (aI (g:=xX) (o:=.cells #[.int .i64 yG,.bool yF,.int .i64 yD,.string yE,.slice (some zl) yj.length zw,.slice Ao xZ.length zx] 33 (0,0)) (bk_ xU.out) hb)
             have BS:=Aside0.mk (aK (by repeat (first|(with_reducible first|exact HB.out|apply av|apply ak|apply au|refine aG ?_ yH.out|refine aG ?_ yO.out)|exact HB.out)) hb)
             clear xS
             clear xU
             clear HB
             have xS:=BQ
             have xU:=BR
             have HB:=BS
             clear BQ BR BS
             (try clear hb)
             (try clear hb2)
             (try clear hk)
             (try clear hi)
             refine hK.out _ _ ⟨(ah xS.out 0).trans rfl,(ah xS.out 1).trans rfl,(ah xS.out 2).trans rfl,(ah xS.out 3).trans rfl,(ah xS.out 4).trans rfl,(ah xS.out 5).trans rfl,(ah xU.out 0).trans rfl,(ah xU.out 1).trans rfl,(ah xU.out 2).trans rfl,(ah xU.out 3).trans rfl,(ah xU.out 4).trans rfl,(ah xU.out 5).trans rfl,((HB.out.cell (World.block_lt_of_cell? w _ AU)).trans AU),((HB.out.cell (World.block_lt_of_cell? w _ AQ)).trans AQ),((HB.out.cell (World.block_lt_of_cell? w _ AP)).trans AP),((HB.out.cell (World.block_lt_of_cell? w _ AO)).trans AO),((HB.out.cell (World.block_lt_of_cell? w _ AL)).trans AL),((HB.out.cell (World.block_lt_of_cell? w _ AJ)).trans AJ),((HB.out.cell (World.block_lt_of_cell? w _ Bb)).trans Bb),((HB.out.cell (World.block_lt_of_cell? w _ Ba)).trans Ba),((HB.out.cell (World.block_lt_of_cell? w _ AZ)).trans AZ),((HB.out.cell (World.block_lt_of_cell? w _ AY)).trans AY),((HB.out.cell (World.block_lt_of_cell? w _ AX)).trans AX),((HB.out.cell (World.block_lt_of_cell? w _ AV)).trans AV)⟩ (fun hHeld=>?_)
             clear hK K
             refine cB (a':=?_) ?_ ?_
             rotate_left
             ·show Act.put _ (some 75) _ = _
              simp only [Act.put,List.setIfInBounds_toArray,List.set_cons_zero,List.set_cons_succ,aT,aU]
              rfl
             refine bE (i:=11) (N:=some 76) (v:=?_) (a':=?_) #[true,true,true,true,true,true,true,true,true,true,true,true] rfl rfl (bg HT_.out (by kernel_rfl)) (fun _ _ _ h=>h) (Or.inl ⟨by rfl,?_⟩) ?_ ?_
             rotate_left
             ·intro w'
              go_simp
              with_reducible rfl
             rotate_left
             ·simp only [Act.put,List.setIfInBounds_toArray,List.set_cons_zero,List.set_cons_succ,aT,aU]
              rfl
             refine jh (gL HT_.out (by kernel_rfl)) ?_
             try go_wp2
             go_roundg k2
             case measure=>have:=HJ2.out;have:=Fx.out;omega
             case rel=>exact ⟨(wrap64 (yg + 1)),(by first|rfl|(simp;done)|(simp [*];done)),H',⟨by have:=HJ2.out;have:=Fx.out;omega⟩,⟨by (with_reducible repeat (first|apply aA|apply aD|apply ay));exact xS.out⟩,⟨by (with_reducible repeat (first|apply aA|apply aD|apply ay));exact xU.out⟩,⟨by repeat (first|(with_reducible first|exact HB.out|apply av|apply ak|apply au|refine aG ?_ yH.out|refine aG ?_ yO.out)|exact HB.out)⟩⟩
            ·replace OZ:=Bool.eq_false_iff.mpr OZ
             subst OZ
             have H1 : (some false) = some r:=by rw [if_neg (show ¬ (false = true) by decide)] at H;exact H
             clear H
             have H:=H1
             clear H1
             obtain rfl:=Option.some.inj H
             have Sn:=yB.out
             have Sq:=yC.out
             have Pk : wr.cell? ⟨xW,0,none⟩ = some (.int .i64 yc):=(ah xS.out 0).trans rfl
             have Pm : wr.cell? ⟨xW,1,none⟩ = some (.bool yA):=(ah xS.out 1).trans rfl
             have Pn : wr.cell? ⟨xW,2,none⟩ = some (.int .i64 yw):=(ah xS.out 2).trans rfl
             have Po : wr.cell? ⟨xW,3,none⟩ = some (.string yx):=(ah xS.out 3).trans rfl
             have Pp : wr.cell? ⟨xW,4,none⟩ = some (.slice zi yh.length yP):=(ah xS.out 4).trans rfl
             have Pq : wr.cell? ⟨xW,5,none⟩ = some (.slice zm xY.length yQ):=(ah xS.out 5).trans rfl
             have Pt:=aj xS.out 0
             have Pv:=aj xS.out 1
             have Pw:=aj xS.out 2
             have Px:=aj xS.out 3
             have Py:=aj xS.out 4
             have Pz:=aj xS.out 5
             try go_wp2
             have BQ:=Aside0.mk (aD xS.out)
             have BR:=Aside0.mk (aD xU.out)
             have BS:=Aside0.mk (au HB.out)
             clear xS
             clear xU
             clear HB
             have xS:=BQ
             have xU:=BR
             have HB:=BS
             clear BQ BR BS
             have DR : 0 ≤ (yg : Int):=of_decide_eq_true (by first|(with_reducible assumption)|assumption)
             have DT : yg < (yh.length : Int):=of_decide_eq_true (by first|(with_reducible assumption)|assumption)
             obtain ⟨zk,CX,CY,CZ,C8,EU,zQ,zR,zS,zT,zU,zV,BU,BZ,Ca,Cb⟩:=oD EN.out yg DR DT
             have AJ:=zV
             have AL:=zU
             have AO:=zT
             have AP:=zS
             have AQ:=zR
             have AU:=zQ
             cases EU
             replace zQ:=(HB.out.cell (World.block_lt_of_cell? w _ zQ)).trans zQ
             replace zR:=(HB.out.cell (World.block_lt_of_cell? w _ zR)).trans zR
             replace zS:=(HB.out.cell (World.block_lt_of_cell? w _ zS)).trans zS
             replace zT:=(HB.out.cell (World.block_lt_of_cell? w _ zT)).trans zT
             replace zU:=(HB.out.cell (World.block_lt_of_cell? w _ zU)).trans zU
             replace zV:=(HB.out.cell (World.block_lt_of_cell? w _ zV)).trans zV
             have Cc:=Aside0.mk BZ
             have Dw:=Aside0.mk BU
             clear BZ BU
             have Ce:=Aside0.mk Cb
             have Dx:=Aside0.mk Ca
             clear Cb Ca
             replace DR:=eq_true DR
             replace DT:=eq_true DT
             have DU : 0 ≤ (yg : Int):=of_decide_eq_true (by first|(with_reducible assumption)|assumption)
             have DV : yg < (yj.length : Int):=of_decide_eq_true (by first|(with_reducible assumption)|assumption)
             obtain ⟨zl,C9,Da,Db,Dc,EW,zW,zX,zY,zZ,z8,Ac,Cg,Ch,Ci,Cj⟩:=oD EO.out yg DU DV
             have AV:=Ac
             have AX:=z8
             have AY:=zZ
             have AZ:=zY
             have Ba:=zX
             have Bb:=zW
             cases EW
             replace zW:=(HB.out.cell (World.block_lt_of_cell? w _ zW)).trans zW
             replace zX:=(HB.out.cell (World.block_lt_of_cell? w _ zX)).trans zX
             replace zY:=(HB.out.cell (World.block_lt_of_cell? w _ zY)).trans zY
             replace zZ:=(HB.out.cell (World.block_lt_of_cell? w _ zZ)).trans zZ
             replace z8:=(HB.out.cell (World.block_lt_of_cell? w _ z8)).trans z8
             replace Ac:=(HB.out.cell (World.block_lt_of_cell? w _ Ac)).trans Ac
             have Ck:=Aside0.mk Ch
             have Dy:=Aside0.mk Cg
             clear Ch Cg
             have Cm:=Aside0.mk Cj
             have Dz:=Aside0.mk Ci
             clear Cj Ci
             replace DU:=eq_true DU
             replace DV:=eq_true DV
             refine iE (n:=12) (S:=fun w'=>w'.cell? ⟨xW,0,none⟩ = some (.int .i64 yc) ∧ w'.cell? ⟨xW,1,none⟩ = some (.bool yA) ∧ w'.cell? ⟨xW,2,none⟩ = some (.int .i64 yw) ∧ w'.cell? ⟨xW,3,none⟩ = some (.string yx) ∧ w'.cell? ⟨xW,4,none⟩ = some (.slice (some zk) yh.length yP) ∧ w'.cell? ⟨xW,5,none⟩ = some (.slice zm xY.length yQ) ∧ w'.cell? ⟨xX,0,none⟩ = some (.int .i64 yG) ∧ w'.cell? ⟨xX,1,none⟩ = some (.bool yF) ∧ w'.cell? ⟨xX,2,none⟩ = some (.int .i64 yD) ∧ w'.cell? ⟨xX,3,none⟩ = some (.string yE) ∧ w'.cell? ⟨xX,4,none⟩ = some (.slice (some zl) yj.length zw) ∧ w'.cell? ⟨xX,5,none⟩ = some (.slice Ao xZ.length zx) ∧ w'.cell? (zk.add ((yg).toNat * 6)) = some (.int .i64 ((bG yh yg).f0)) ∧ w'.cell? ⟨(zk.add ((yg).toNat * 6)).block,(zk.add ((yg).toNat * 6)).off + 1,none⟩ = some (.bool ((bG yh yg).f1)) ∧ w'.cell? ⟨(zk.add ((yg).toNat * 6)).block,(zk.add ((yg).toNat * 6)).off + 2,none⟩ = some (.int .i64 ((bG yh yg).f2)) ∧ w'.cell? ⟨(zk.add ((yg).toNat * 6)).block,(zk.add ((yg).toNat * 6)).off + 3,none⟩ = some (.string ((bG yh yg).f3)) ∧ w'.cell? ⟨(zk.add ((yg).toNat * 6)).block,(zk.add ((yg).toNat * 6)).off + 4,none⟩ = some (.slice CX ((bG yh yg).f4).length CY) ∧ w'.cell? ⟨(zk.add ((yg).toNat * 6)).block,(zk.add ((yg).toNat * 6)).off + 5,none⟩ = some (.slice CZ ((bG yh yg).f5).length C8) ∧ w'.cell? (zl.add ((yg).toNat * 6)) = some (.int .i64 ((bG yj yg).f0)) ∧ w'.cell? ⟨(zl.add ((yg).toNat * 6)).block,(zl.add ((yg).toNat * 6)).off + 1,none⟩ = some (.bool ((bG yj yg).f1)) ∧ w'.cell? ⟨(zl.add ((yg).toNat * 6)).block,(zl.add ((yg).toNat * 6)).off + 2,none⟩ = some (.int .i64 ((bG yj yg).f2)) ∧ w'.cell? ⟨(zl.add ((yg).toNat * 6)).block,(zl.add ((yg).toNat * 6)).off + 3,none⟩ = some (.string ((bG yj yg).f3)) ∧ w'.cell? ⟨(zl.add ((yg).toNat * 6)).block,(zl.add ((yg).toNat * 6)).off + 4,none⟩ = some (.slice C9 ((bG yj yg).f4).length Da) ∧ w'.cell? ⟨(zl.add ((yg).toNat * 6)).block,(zl.add ((yg).toNat * 6)).off + 5,none⟩ = some (.slice Db ((bG yj yg).f5).length Dc)) (ds:=[]) #[false,false,false,false,false,false,false,false,false,false,false,false] (by kernel_rfl) rfl rfl ⟨(ah xS.out 0).trans rfl,(ah xS.out 1).trans rfl,(ah xS.out 2).trans rfl,(ah xS.out 3).trans rfl,(ah xS.out 4).trans rfl,(ah xS.out 5).trans rfl,(ah xU.out 0).trans rfl,(ah xU.out 1).trans rfl,(ah xU.out 2).trans rfl,(ah xU.out 3).trans rfl,(ah xU.out 4).trans rfl,(ah xU.out 5).trans rfl,((HB.out.cell (World.block_lt_of_cell? w _ AU)).trans AU),((HB.out.cell (World.block_lt_of_cell? w _ AQ)).trans AQ),((HB.out.cell (World.block_lt_of_cell? w _ AP)).trans AP),((HB.out.cell (World.block_lt_of_cell? w _ AO)).trans AO),((HB.out.cell (World.block_lt_of_cell? w _ AL)).trans AL),((HB.out.cell (World.block_lt_of_cell? w _ AJ)).trans AJ),((HB.out.cell (World.block_lt_of_cell? w _ Bb)).trans Bb),((HB.out.cell (World.block_lt_of_cell? w _ Ba)).trans Ba),((HB.out.cell (World.block_lt_of_cell? w _ AZ)).trans AZ),((HB.out.cell (World.block_lt_of_cell? w _ AY)).trans AY),((HB.out.cell (World.block_lt_of_cell? w _ AX)).trans AX),((HB.out.cell (World.block_lt_of_cell? w _ AV)).trans AV)⟩ (fun hHeld=>?_);refine fB aJ.wS aJ.u7 (fun HT_ HW_=>?_)
             generalize wr.drew = S9 at xS xU HB Cc Ce Ck Cm zQ zR zS zT zU zV zW zX zY zZ z8 Ac hHeld ⊢
             refine bE (i:=0) (N:=some 65) (v:=?_) (a':=?_) #[true,false,false,false,false,false,false,false,false,false,false,false] rfl rfl (bg HT_.out (by kernel_rfl)) (fun _ _ _ h=>h) (Or.inl ⟨by rfl,?_⟩) ?_ ?_
             rotate_left
             ·intro w'
              go_simp
              with_reducible rfl
             rotate_left
             ·simp only [Act.put,List.setIfInBounds_toArray,List.set_cons_zero,List.set_cons_succ,aT,aU]
              rfl
             refine bE (i:=2) (N:=some 67) (v:=?_) (a':=?_) #[true,false,true,false,false,false,false,false,false,false,false,false] rfl rfl (bg HT_.out (by kernel_rfl)) (fun _ _ _ h=>h) (Or.inl ⟨by rfl,?_⟩) ?_ ?_
             rotate_left
             ·intro w'
              go_simp
              with_reducible rfl
             rotate_left
             ·simp only [Act.put,List.setIfInBounds_toArray,List.set_cons_zero,List.set_cons_succ,aT,aU]
              rfl
             refine bE (i:=5) (N:=some 70) (v:=?_) (a':=?_) #[true,false,true,false,false,true,false,false,false,false,false,false] rfl rfl (bg HT_.out (by kernel_rfl)) (fun _ _ _ h=>h) (Or.inl ⟨by rfl,?_⟩) ?_ ?_
             rotate_left
             ·intro w'
              go_simp
              with_reducible rfl
             rotate_left
             ·simp only [Act.put,List.setIfInBounds_toArray,List.set_cons_zero,List.set_cons_succ,aT,aU]
              rfl
             refine bE (i:=7) (N:=some 72) (v:=?_) (a':=?_) #[true,false,true,false,false,true,false,true,false,false,false,false] rfl rfl (bg HT_.out (by kernel_rfl)) (fun _ _ _ h=>h) (Or.inl ⟨by rfl,?_⟩) ?_ ?_
             rotate_left
             ·intro w'
              go_simp
              with_reducible rfl
             rotate_left
             ·simp only [Act.put,List.setIfInBounds_toArray,List.set_cons_zero,List.set_cons_succ,aT,aU]
              rfl
             refine dI (i:=1) (N:=some 66) (v:=?_) (a':=?_) #[true,true,true,false,false,true,false,true,false,false,false,false] rfl rfl (bU HT_.out HW_.out (by kernel_rfl)) (fun _ _ _ h=>h) (Or.inl ⟨by rfl,?_⟩) hHeld ?_ ?_
             rotate_left
             ·rintro w' ⟨s0,s1,s2,s3,s4,s5,s6,s7,s8,s9,s10,s11,s12,s13,CO,s15,s16,CP,CQ,CS,s20,CU,CV,CW⟩
              go_simp
              with_reducible rfl
             rotate_left
             ·simp only [Act.put,List.setIfInBounds_toArray,List.set_cons_zero,List.set_cons_succ,aT,aU]
              rfl
             refine bE (i:=3) (N:=some 68) (v:=?_) (a':=?_) #[true,true,true,true,false,true,false,true,false,false,false,false] rfl rfl (bg HT_.out (by kernel_rfl)) (fun _ _ _ h=>h) (Or.inl ⟨by rfl,?_⟩) ?_ ?_
             rotate_left
             ·intro w'
              go_simp
              with_reducible rfl
             rotate_left
             ·simp only [Act.put,List.setIfInBounds_toArray,List.set_cons_zero,List.set_cons_succ,aT,aU]
              rfl
             refine dI (i:=4) (N:=some 69) (v:=?_) (a':=?_) #[true,true,true,true,true,true,false,true,false,false,false,false] rfl rfl (bU HT_.out HW_.out (by kernel_rfl)) (fun _ _ _ h=>h) (Or.inl ⟨by rfl,?_⟩) hHeld ?_ ?_
             rotate_left
             ·rintro w' ⟨s0,s1,s2,s3,s4,s5,s6,s7,s8,s9,s10,s11,s12,s13,CO,s15,s16,CP,CQ,CS,s20,CU,CV,CW⟩
              go_simp
              with_reducible rfl
             rotate_left
             ·simp only [Act.put,List.setIfInBounds_toArray,List.set_cons_zero,List.set_cons_succ,aT,aU]
              rfl
             refine dI (i:=6) (N:=some 71) (v:=?_) (a':=?_) #[true,true,true,true,true,true,true,true,false,false,false,false] rfl rfl (bU HT_.out HW_.out (by kernel_rfl)) (fun _ _ _ h=>h) (Or.inl ⟨by rfl,?_⟩) hHeld ?_ ?_
             rotate_left
             ·rintro w' ⟨s0,s1,s2,s3,s4,s5,s6,s7,s8,s9,s10,s11,s12,s13,CO,s15,s16,CP,CQ,CS,s20,CU,CV,CW⟩
              go_simp
              with_reducible rfl
             rotate_left
             ·simp only [Act.put,List.setIfInBounds_toArray,List.set_cons_zero,List.set_cons_succ,aT,aU]
              rfl
             refine bE (i:=8) (N:=some 73) (v:=?_) (a':=?_) #[true,true,true,true,true,true,true,true,true,false,false,false] rfl rfl (bg HT_.out (by kernel_rfl)) (fun _ _ _ h=>h) (Or.inl ⟨by rfl,?_⟩) ?_ ?_
             rotate_left
             ·intro w'
              go_simp
              with_reducible rfl
             rotate_left
             ·simp only [Act.put,List.setIfInBounds_toArray,List.set_cons_zero,List.set_cons_succ,aT,aU]
              rfl
             refine dI (i:=9) (N:=some 74) (v:=?_) (a':=?_) #[true,true,true,true,true,true,true,true,true,true,false,false] rfl rfl (bU HT_.out HW_.out (by kernel_rfl)) (fun _ _ _ h=>h) (Or.inl ⟨by rfl,?_⟩) hHeld ?_ ?_
             rotate_left
             ·rintro w' ⟨s0,s1,s2,s3,s4,s5,s6,s7,s8,s9,s10,s11,s12,s13,CO,s15,s16,CP,CQ,CS,s20,CU,CV,CW⟩
              go_simp
              with_reducible rfl
             rotate_left
             ·simp only [Act.put,List.setIfInBounds_toArray,List.set_cons_zero,List.set_cons_succ,aT,aU]
              rfl
             refine fM (i:=10) (N:=some 75) #[true,true,true,true,true,true,true,true,true,true,true,false] rfl rfl (dx HT_.out (by kernel_rfl)) (by decide) (fun K hK=>?_)
             refine gq Tryd.func13 (by kernel_rfl) rfl #[.agg #[.int .i64 ((bG yh yg).f0),.bool ((bG yh yg).f1),.int .i64 ((bG yh yg).f2),.string ((bG yh yg).f3),.slice CX ((bG yh yg).f4).length CY,.slice CZ ((bG yh yg).f5).length C8],.agg #[.int .i64 ((bG yj yg).f0),.bool ((bG yj yg).f1),.int .i64 ((bG yj yg).f2),.string ((bG yj yg).f3),.slice C9 ((bG yj yg).f4).length Da,.slice Db ((bG yj yg).f5).length Dc]] (by rfl) rfl rfl (by (try simp only [List.map_toArray,List.map_cons,List.map_nil]);first|done|rfl|(simp only [List.length_drop,List.length_take];rfl)) ?_
             with_reducible refine (ih k2 (by have:=HJ2.out;have:=Fx.out;omega) ((bG yh yg).f0) ((bG yh yg).f1) ((bG yh yg).f2) ((bG yh yg).f3) _ _ ((bG yh yg).f4) _ _ ((bG yh yg).f5) ((bG yj yg).f0) ((bG yj yg).f1) ((bG yj yg).f2) ((bG yj yg).f3) _ _ ((bG yj yg).f4) _ _ ((bG yj yg).f5) false _ ?Df ?Dh ?Di ?Dj ?Dk ?Dl ?Dm ?Dn Sk.out).mono ?_
             (case Df=>repeat (first|exact (Kd.bQ Cc.out HB.out)|(with_reducible refine Kd.bW ?_ _)|(with_reducible refine Kd.bX ?_ _)|(with_reducible refine Kd.dh ?_)))
             (case Dh=>exact Dw.out)
             (case Di=>repeat (first|exact (Kd.bQ Ce.out HB.out)|(with_reducible refine Kd.bW ?_ _)|(with_reducible refine Kd.bX ?_ _)|(with_reducible refine Kd.dh ?_)))
             (case Dj=>exact Dx.out)
             (case Dk=>repeat (first|exact (Kd.bQ Ck.out HB.out)|(with_reducible refine Kd.bW ?_ _)|(with_reducible refine Kd.bX ?_ _)|(with_reducible refine Kd.dh ?_)))
             (case Dl=>exact Dy.out)
             (case Dm=>repeat (first|exact (Kd.bQ Cm.out HB.out)|(with_reducible refine Kd.bW ?_ _)|(with_reducible refine Kd.bX ?_ _)|(with_reducible refine Kd.dh ?_)))
             (case Dn=>exact Dz.out)
             rintro e Ta ⟨rfl,hb⟩
             refine ⟨_,rfl,?_⟩
             have BQ:=Aside0.mk (aI (g:=xW) (o:=.cells #[.int .i64 yc,.bool yA,.int .i64 yw,.string yx,.slice (some zk) yh.length yP,.slice zm xY.length yQ] 33 (0,0)) (bk_ xS.out) hb)
             have BR:=Aside0.mk (aI (g:=xX) (o:=.cells #[.int .i64 yG,.bool yF,.int .i64 yD,.string yE,.slice (some zl) yj.length zw,.slice Ao xZ.length zx] 33 (0,0)) (bk_ xU.out) hb)
             have BS:=Aside0.mk (aK (by repeat (first|(with_reducible first|exact HB.out|apply av|apply ak|apply au|refine aG ?_ yH.out|refine aG ?_ yO.out)|exact HB.out)) hb)
             clear xS
             clear xU
             clear HB
             have xS:=BQ
             have xU:=BR
             have HB:=BS
             clear BQ BR BS
             (try clear hb)
             (try clear hb2)
             (try clear hk)
             (try clear hi)
             refine hK.out _ _ ⟨(ah xS.out 0).trans rfl,(ah xS.out 1).trans rfl,(ah xS.out 2).trans rfl,(ah xS.out 3).trans rfl,(ah xS.out 4).trans rfl,(ah xS.out 5).trans rfl,(ah xU.out 0).trans rfl,(ah xU.out 1).trans rfl,(ah xU.out 2).trans rfl,(ah xU.out 3).trans rfl,(ah xU.out 4).trans rfl,(ah xU.out 5).trans rfl,((HB.out.cell (World.block_lt_of_cell? w _ AU)).trans AU),((HB.out.cell (World.block_lt_of_cell? w _ AQ)).trans AQ),((HB.out.cell (World.block_lt_of_cell? w _ AP)).trans AP),((HB.out.cell (World.block_lt_of_cell? w _ AO)).trans AO),((HB.out.cell (World.block_lt_of_cell? w _ AL)).trans AL),((HB.out.cell (World.block_lt_of_cell? w _ AJ)).trans AJ),((HB.out.cell (World.block_lt_of_cell? w _ Bb)).trans Bb),((HB.out.cell (World.block_lt_of_cell? w _ Ba)).trans Ba),((HB.out.cell (World.block_lt_of_cell? w _ AZ)).trans AZ),((HB.out.cell (World.block_lt_of_cell? w _ AY)).trans AY),((HB.out.cell (World.block_lt_of_cell? w _ AX)).trans AX),((HB.out.cell (World.block_lt_of_cell? w _ AV)).trans AV)⟩ (fun hHeld=>?_)
             clear hK K
             refine cB (a':=?_) ?_ ?_
             rotate_left
             ·show Act.put _ (some 75) _ = _
              simp only [Act.put,List.setIfInBounds_toArray,List.set_cons_zero,List.set_cons_succ,aT,aU]
              rfl
             refine bE (i:=11) (N:=some 76) (v:=?_) (a':=?_) #[true,true,true,true,true,true,true,true,true,true,true,true] rfl rfl (bg HT_.out (by kernel_rfl)) (fun _ _ _ h=>h) (Or.inl ⟨by rfl,?_⟩) ?_ ?_
             rotate_left
             ·intro w'
              go_simp
              with_reducible rfl
             rotate_left
             ·simp only [Act.put,List.setIfInBounds_toArray,List.set_cons_zero,List.set_cons_succ,aT,aU]
              rfl
             refine jh (gL HT_.out (by kernel_rfl)) ?_
             try go_wp2
             go_ret
             exact ⟨by first|rfl|(simp [aX,aY] <;> rfl)|(simp [*,aX,aY] <;> rfl),by repeat (first|(with_reducible first|exact HB.out|apply av|apply ak|apply au|refine aG ?_ yH.out|refine aG ?_ yO.out)|exact HB.out)⟩
           ·rw [if_neg c64] at H
            exact absurd H (by simp)
          ·rw [if_neg OY] at H
           exact absurd H (by simp)
         ·rw [if_neg Fu] at H
          have c62b0 : decide (yg < (yh.length : Int)) = false:=decide_eq_false Fu
          clear Fu
          have H':=Aside0.mk H
          clear H
          have Sr:=yB.out
          have Sv:=yC.out
          have PD : wr.cell? ⟨xW,0,none⟩ = some (.int .i64 yc):=(ah xS.out 0).trans rfl
          have PE : wr.cell? ⟨xW,1,none⟩ = some (.bool yA):=(ah xS.out 1).trans rfl
          have PG : wr.cell? ⟨xW,2,none⟩ = some (.int .i64 yw):=(ah xS.out 2).trans rfl
          have PI : wr.cell? ⟨xW,3,none⟩ = some (.string yx):=(ah xS.out 3).trans rfl
          have PK : wr.cell? ⟨xW,4,none⟩ = some (.slice zi yh.length yP):=(ah xS.out 4).trans rfl
          have PL : wr.cell? ⟨xW,5,none⟩ = some (.slice zm xY.length yQ):=(ah xS.out 5).trans rfl
          have PN:=aj xS.out 0
          have PO:=aj xS.out 1
          have PS:=aj xS.out 2
          have PU:=aj xS.out 3
          have PV:=aj xS.out 4
          have PW:=aj xS.out 5
          go_wp2
          go_meet
          case rel=>exact ⟨_,H',⟨by have:=HJ2.out;have:=Fx.out;first|omega|exact Nat.le_refl _⟩,⟨by (with_reducible repeat (first|apply aA|apply aD|apply ay));exact xS.out⟩,⟨by (with_reducible repeat (first|apply aA|apply aD|apply ay));exact xU.out⟩,⟨by repeat (first|(with_reducible first|exact HB.out|apply av|apply ak|apply au|refine aG ?_ yH.out|refine aG ?_ yO.out)|exact HB.out)⟩⟩
      ·rw [if_neg EF] at H
       have c58b0 : ((yh.length : Int) == (yj.length : Int)) = false:=beq_eq_false_iff_ne.mpr EF
       have c58b1 : ((yh.length : Int) != (yj.length : Int)) = true:=bne_iff_ne.mpr EF
       have c58b2 : (yh.length == yj.length) = false:=by first|simpa using EF|(simp at EF ⊢;omega)
       obtain rfl:=Option.some.inj H
       have Sw:=yB.out
       have Sy:=yC.out
       have PX : wc.cell? ⟨xW,0,none⟩ = some (.int .i64 yc):=(ah xS.out 0).trans rfl
       have PY : wc.cell? ⟨xW,1,none⟩ = some (.bool yA):=(ah xS.out 1).trans rfl
       have PZ : wc.cell? ⟨xW,2,none⟩ = some (.int .i64 yw):=(ah xS.out 2).trans rfl
       have P5 : wc.cell? ⟨xW,3,none⟩ = some (.string yx):=(ah xS.out 3).trans rfl
       have P6 : wc.cell? ⟨xW,4,none⟩ = some (.slice zi yh.length yP):=(ah xS.out 4).trans rfl
       have P7 : wc.cell? ⟨xW,5,none⟩ = some (.slice zm xY.length yQ):=(ah xS.out 5).trans rfl
       have P8:=aj xS.out 0
       have P9:=aj xS.out 1
       have Qa:=aj xS.out 2
       have Qb:=aj xS.out 3
       have Qc:=aj xS.out 4
       have Qd:=aj xS.out 5
       have Qe : wc.cell? ⟨xX,0,none⟩ = some (.int .i64 yG):=(ah xU.out 0).trans rfl
       have Qf : wc.cell? ⟨xX,1,none⟩ = some (.bool yF):=(ah xU.out 1).trans rfl
       have Qg : wc.cell? ⟨xX,2,none⟩ = some (.int .i64 yD):=(ah xU.out 2).trans rfl
       have Qh : wc.cell? ⟨xX,3,none⟩ = some (.string yE):=(ah xU.out 3).trans rfl
       have Qi : wc.cell? ⟨xX,4,none⟩ = some (.slice zP yj.length zw):=(ah xU.out 4).trans rfl
       have Qj : wc.cell? ⟨xX,5,none⟩ = some (.slice Ao xZ.length zx):=(ah xU.out 5).trans rfl
       have Qk:=aj xU.out 0
       have Ql:=aj xU.out 1
       have Qm:=aj xU.out 2
       have Qn:=aj xU.out 3
       have Qo:=aj xU.out 4
       have Qp:=aj xU.out 5
       go_wp2
       go_ret
       exact ⟨by first|rfl|(simp [aX,aY] <;> rfl)|(simp [*,aX,aY] <;> rfl),by repeat (first|(with_reducible first|exact HB.out|apply av|apply ak|apply au|refine aG ?_ yH.out|refine aG ?_ yO.out)|exact HB.out)⟩
     ·rw [if_neg ET] at H
      have c57b0 : (yc == 4) = false:=beq_eq_false_iff_ne.mpr ET
      have c57b1 : (yc != 4) = true:=bne_iff_ne.mpr ET
      (first|rw [c57b0]|(simp only [aT,aU];rw [c57b0])|skip)
      have H':=Aside0.mk H
      clear H
      go_wp2
      go_meet
      case rel=>exact ⟨_,H',⟨by have:=HJ2.out;first|omega|exact Nat.le_refl _⟩,⟨by (with_reducible repeat (first|apply aA|apply aD|apply ay));exact xS.out⟩,⟨by (with_reducible repeat (first|apply aA|apply aD|apply ay));exact xU.out⟩,⟨by repeat (first|(with_reducible first|exact HB.out|apply av|apply ak|apply au|refine aG ?_ yH.out|refine aG ?_ yO.out)|exact HB.out)⟩⟩
    case rest =>
     clear ES
     obtain ⟨kq,HA,EM,xS,xU,HB⟩:=hcut
     cases kq with
     | zero=>exact absurd HA.out (by simp [aJ.j2])
     | succ Fz =>
      have H:=HA.out
      clear HA
      simp only [aJ.j2] at H
      by_cases c80 : yc = 5
      ·rw [if_pos c80] at H
       have c80b0 : (yc == 5) = true:=beq_iff_eq.mpr c80
       have c80b1 : (yc != 5) = false:=bne_eq_false_iff_eq.mpr c80
       clear c80
       by_cases EG : (xY.length : Int) = (xZ.length : Int)
       ·rw [if_pos EG] at H
        have c81b0 : ((xY.length : Int) == (xZ.length : Int)) = true:=beq_iff_eq.mpr EG
        have c81b1 : ((xY.length : Int) != (xZ.length : Int)) = false:=bne_eq_false_iff_eq.mpr EG
        have c81b2 : (xY.length == xZ.length) = true:=by first|simpa using EG|(simp at EG ⊢;omega)
        clear EG
        have H':=Aside0.mk H
        clear H
        have Sz:=yB.out
        have SA:=yC.out
        have Qq : wc.cell? ⟨xW,0,none⟩ = some (.int .i64 yc):=(ah xS.out 0).trans rfl
        have Qr : wc.cell? ⟨xW,1,none⟩ = some (.bool yA):=(ah xS.out 1).trans rfl
        have Qs : wc.cell? ⟨xW,2,none⟩ = some (.int .i64 yw):=(ah xS.out 2).trans rfl
        have Qt : wc.cell? ⟨xW,3,none⟩ = some (.string yx):=(ah xS.out 3).trans rfl
        have Qu : wc.cell? ⟨xW,4,none⟩ = some (.slice zi yh.length yP):=(ah xS.out 4).trans rfl
        have Qv : wc.cell? ⟨xW,5,none⟩ = some (.slice zm xY.length yQ):=(ah xS.out 5).trans rfl
        have Qw:=aj xS.out 0
        have Qx:=aj xS.out 1
        have Qy:=aj xS.out 2
        have Qz:=aj xS.out 3
        have QA:=aj xS.out 4
        have QB:=aj xS.out 5
        have QC : wc.cell? ⟨xX,0,none⟩ = some (.int .i64 yG):=(ah xU.out 0).trans rfl
        have QD : wc.cell? ⟨xX,1,none⟩ = some (.bool yF):=(ah xU.out 1).trans rfl
        have QE : wc.cell? ⟨xX,2,none⟩ = some (.int .i64 yD):=(ah xU.out 2).trans rfl
        have QF : wc.cell? ⟨xX,3,none⟩ = some (.string yE):=(ah xU.out 3).trans rfl
        have QG : wc.cell? ⟨xX,4,none⟩ = some (.slice zP yj.length zw):=(ah xU.out 4).trans rfl
        have QH : wc.cell? ⟨xX,5,none⟩ = some (.slice Ao xZ.length zx):=(ah xU.out 5).trans rfl
        have QI:=aj xU.out 0
        have QJ:=aj xU.out 1
        have QK:=aj xU.out 2
        have QL:=aj xU.out 3
        have QM:=aj xU.out 4
        have QN:=aj xU.out 5
        go_wp2
        go_loopg [6] Fz (fun kq v6 w'=>∃ (xV : Int),v6 = .int .i64 xV ∧ Aside0 (aJ.l1 kq xV yc yA yw yx yh xY yG yF yD yE yj xZ = some r) ∧ Aside0 (kq ≤ Fz) ∧ Aside0 (w'.heap[xW]? = some (.cells #[.int .i64 yc,.bool yA,.int .i64 yw,.string yx,(.slice zi yh.length yP),(.slice zm xY.length yQ)] 33 (0,0))) ∧ Aside0 (w'.heap[xX]? = some (.cells #[.int .i64 yG,.bool yF,.int .i64 yD,.string yE,(.slice zP yj.length zw),(.slice Ao xZ.length zx)] 33 (0,0))) ∧ Aside0 (Below w.heap.size w w'))
        case atStart=>exact ⟨(0),(by first|rfl|(simp;done)|(simp [*];done)),H',⟨Nat.le_refl _⟩,⟨by (with_reducible repeat (first|apply aA|apply aD|apply ay));exact xS.out⟩,⟨by (with_reducible repeat (first|apply aA|apply aD|apply ay));exact xU.out⟩,⟨by repeat (first|(with_reducible first|exact HB.out|apply av|apply ak|apply au|refine aG ?_ yH.out|refine aG ?_ yO.out)|exact HB.out)⟩⟩
        case round =>
         clear H'
         obtain ⟨xV,rfl,HA,QO,xS,xU,HB⟩:=hrel
         cases gk with
         | zero=>exact absurd HA.out (by simp [aJ.l1])
         | succ k3 =>
          have H:=HA.out
          clear HA
          simp only [aJ.l1] at H
          by_cases c85 : xV < (xY.length : Int)
          ·rw [if_pos c85] at H
           have c85b0 : decide (xV < (xY.length : Int)) = true:=decide_eq_true c85
           clear c85
           by_cases QS : 0 ≤ xV
           ·rw [if_pos QS] at H
            have c86b0 : decide (0 ≤ xV) = true:=decide_eq_true QS
            clear QS
            by_cases c87 : xV < (xZ.length : Int)
            ·rw [if_pos c87] at H
             have c87b0 : decide (xV < (xZ.length : Int)) = true:=decide_eq_true c87
             clear c87
             by_cases EZ : ((aV xY xV).f0).toList = ((aV xZ xV).f0).toList
             ·rw [if_pos EZ] at H
              have c88b0 : (((aV xY xV).f0).toList == ((aV xZ xV).f0).toList) = true:=beq_iff_eq.mpr EZ
              have c88b1 : (((aV xY xV).f0).toList != ((aV xZ xV).f0).toList) = false:=bne_eq_false_iff_eq.mpr EZ
              clear EZ
              replace H:=Option.bind_eq_some_iff.mp H
              obtain ⟨EK,FB,H⟩:=H
              replace H : (if EK = true then (aJ.l1 k3 (wrap64 (xV + 1)) yc yA yw yx yh xY yG yF yD yE yj xZ) else (some false)) = some r:=H
              have SB:=Aside0.mk FB
              clear FB
              by_cases QT : EK = true
              ·subst QT
               have H1 : (aJ.l1 k3 (wrap64 (xV + 1)) yc yA yw yx yh xY yG yF yD yE yj xZ) = some r:=by rw [if_pos rfl] at H;exact H
               clear H
               have H:=H1
               clear H1
               have H':=Aside0.mk H
               clear H
               have SC:=yB.out
               have SE:=yC.out
               have QU : wr.cell? ⟨xW,0,none⟩ = some (.int .i64 yc):=(ah xS.out 0).trans rfl
               have QV : wr.cell? ⟨xW,1,none⟩ = some (.bool yA):=(ah xS.out 1).trans rfl
               have QW : wr.cell? ⟨xW,2,none⟩ = some (.int .i64 yw):=(ah xS.out 2).trans rfl
               have QX : wr.cell? ⟨xW,3,none⟩ = some (.string yx):=(ah xS.out 3).trans rfl
               have QY : wr.cell? ⟨xW,4,none⟩ = some (.slice zi yh.length yP):=(ah xS.out 4).trans rfl
               have QZ : wr.cell? ⟨xW,5,none⟩ = some (.slice zm xY.length yQ):=(ah xS.out 5).trans rfl
               have Q0:=aj xS.out 0
               have Q5:=aj xS.out 1
               have Q6:=aj xS.out 2
               have Q7:=aj xS.out 3
               have Q8:=aj xS.out 4
               have Q9:=aj xS.out 5
               try go_wp2
               have BQ:=Aside0.mk (aD xS.out)
               have BR:=Aside0.mk (aD xU.out)
               have BS:=Aside0.mk (au HB.out)
               clear xS
               clear xU
               clear HB
               have xS:=BQ
               have xU:=BR
               have HB:=BS
               clear BQ BR BS
               have Dp : 0 ≤ (xV : Int):=of_decide_eq_true (by first|(with_reducible assumption)|assumption)
               have Dq : xV < (xY.length : Int):=of_decide_eq_true (by first|(with_reducible assumption)|assumption)
               obtain ⟨yt,BI,BJ,BK,BL,EH,yT,yU,yV,yX,yY,yI,yJ,Bv,Bw,Bz,BA⟩:=iG DL.out xV Dp Dq
               have zy:=yJ
               have zA:=yI
               have zB:=yY
               have zC:=yX
               have zD:=yV
               have zF:=yU
               have zG:=yT
               cases EH
               replace yT:=(HB.out.cell (World.block_lt_of_cell? w _ yT)).trans yT
               replace yU:=(HB.out.cell (World.block_lt_of_cell? w _ yU)).trans yU
               replace yV:=(HB.out.cell (World.block_lt_of_cell? w _ yV)).trans yV
               replace yX:=(HB.out.cell (World.block_lt_of_cell? w _ yX)).trans yX
               replace yY:=(HB.out.cell (World.block_lt_of_cell? w _ yY)).trans yY
               replace yI:=(HB.out.cell (World.block_lt_of_cell? w _ yI)).trans yI
               replace yJ:=(HB.out.cell (World.block_lt_of_cell? w _ yJ)).trans yJ
               have Cn:=Aside0.mk Bw
               have En:=Aside0.mk Bv
               clear Bw Bv
               have Co:=Aside0.mk BA
               have Eo:=Aside0.mk Bz
               clear BA Bz
               replace Dp:=eq_true Dp
               replace Dq:=eq_true Dq
               have Dr : 0 ≤ (xV : Int):=of_decide_eq_true (by first|(with_reducible assumption)|assumption)
               have Dt : xV < (xZ.length : Int):=of_decide_eq_true (by first|(with_reducible assumption)|assumption)
               obtain ⟨yu,BM,BN,BO,BP,e197,yZ,za,ze,zf,zh,yK,yL,BD,BF,BG,BH⟩:=iG DN.out xV Dr Dt
               have zH:=yL
               have zI:=yK
               have zJ:=zh
               have zK:=zf
               have zL:=ze
               have zM:=za
               have zN:=yZ
               cases e197
               replace yZ:=(HB.out.cell (World.block_lt_of_cell? w _ yZ)).trans yZ
               replace za:=(HB.out.cell (World.block_lt_of_cell? w _ za)).trans za
               replace ze:=(HB.out.cell (World.block_lt_of_cell? w _ ze)).trans ze
               replace zf:=(HB.out.cell (World.block_lt_of_cell? w _ zf)).trans zf
               replace zh:=(HB.out.cell (World.block_lt_of_cell? w _ zh)).trans zh
               replace yK:=(HB.out.cell (World.block_lt_of_cell? w _ yK)).trans yK
               replace yL:=(HB.out.cell (World.block_lt_of_cell? w _ yL)).trans yL
               have Cq:=Aside0.mk BF
               have Ep:=Aside0.mk BD
               clear BF BD
               have Cr:=Aside0.mk BH
               have Er:=Aside0.mk BG
               clear BH BG
               replace Dr:=eq_true Dr
               replace Dt:=eq_true Dt
               have DW : 0 ≤ (xV : Int):=of_decide_eq_true (by first|(with_reducible assumption)|assumption)
               have DX : xV < (xY.length : Int):=of_decide_eq_true (by first|(with_reducible assumption)|assumption)
               obtain ⟨EI,E8,Fa,Fb,Fe,Fg,Ad,Ae,Af,Ag,Ah,zn,zo,Ct,Cu,Cv,Cw⟩:=iG DL.out xV DW DX
               have Bc:=zo
               have Bd:=zn
               have Bf:=Ah
               have Bg:=Ag
               have Bh:=Af
               have Bj:=Ae
               have Bl:=Ad
               obtain rfl : yt = EI:=(by injection Fg)
               replace Ad:=(HB.out.cell (World.block_lt_of_cell? w _ Ad)).trans Ad
               replace Ae:=(HB.out.cell (World.block_lt_of_cell? w _ Ae)).trans Ae
               replace Af:=(HB.out.cell (World.block_lt_of_cell? w _ Af)).trans Af
               replace Ag:=(HB.out.cell (World.block_lt_of_cell? w _ Ag)).trans Ag
               replace Ah:=(HB.out.cell (World.block_lt_of_cell? w _ Ah)).trans Ah
               replace zn:=(HB.out.cell (World.block_lt_of_cell? w _ zn)).trans zn
               replace zo:=(HB.out.cell (World.block_lt_of_cell? w _ zo)).trans zo
               have Cx:=Aside0.mk Cu
               have DC:=Aside0.mk Ct
               clear Cu Ct
               have Cy:=Aside0.mk Cw
               have DF:=Aside0.mk Cv
               clear Cw Cv
               replace DW:=eq_true DW
               replace DX:=eq_true DX
               have ea_:=Option.some.inj (yI.symm.trans zn)
               injection ea_ with ea_ en_ ec_
               subst ea_
               subst ec_
               clear en_
               have ea_:=Option.some.inj (yJ.symm.trans zo)
               injection ea_ with ea_ en_ ec_
               subst ea_
               subst ec_
               clear en_
               have DY : 0 ≤ (xV : Int):=of_decide_eq_true (by first|(with_reducible assumption)|assumption)
               have DZ : xV < (xZ.length : Int):=of_decide_eq_true (by first|(with_reducible assumption)|assumption)
               obtain ⟨EJ,Fh,Fj,Fp,Fq,e199,Ai,Aj,Ak,Al,Am,zq,zu,Cz,CB,CF,CG⟩:=iG DN.out xV DY DZ
               have Bn:=zu
               have Bo:=zq
               have Bp:=Am
               have Bq:=Al
               have Br:=Ak
               have Bt:=Aj
               have Bu:=Ai
               obtain rfl : yu = EJ:=(by injection e199)
               replace Ai:=(HB.out.cell (World.block_lt_of_cell? w _ Ai)).trans Ai
               replace Aj:=(HB.out.cell (World.block_lt_of_cell? w _ Aj)).trans Aj
               replace Ak:=(HB.out.cell (World.block_lt_of_cell? w _ Ak)).trans Ak
               replace Al:=(HB.out.cell (World.block_lt_of_cell? w _ Al)).trans Al
               replace Am:=(HB.out.cell (World.block_lt_of_cell? w _ Am)).trans Am
               replace zq:=(HB.out.cell (World.block_lt_of_cell? w _ zq)).trans zq
               replace zu:=(HB.out.cell (World.block_lt_of_cell? w _ zu)).trans zu
               have CJ:=Aside0.mk CB
               have DI:=Aside0.mk Cz
               clear CB Cz
               have CK:=Aside0.mk CG
               have DJ:=Aside0.mk CF
               clear CG CF
               replace DY:=eq_true DY
               replace DZ:=eq_true DZ
               have ea_:=Option.some.inj (yK.symm.trans zq)
               injection ea_ with ea_ en_ ec_
               subst ea_
               subst ec_
               clear en_
               have ea_:=Option.some.inj (yL.symm.trans zu)
               injection ea_ with ea_ en_ ec_
               subst ea_
               subst ec_
               clear en_
               refine iE (n:=29) (S:=fun w'=>w'.cell? ⟨xW,0,none⟩ = some (.int .i64 yc) ∧ w'.cell? ⟨xW,1,none⟩ = some (.bool yA) ∧ w'.cell? ⟨xW,2,none⟩ = some (.int .i64 yw) ∧ w'.cell? ⟨xW,3,none⟩ = some (.string yx) ∧ w'.cell? ⟨xW,4,none⟩ = some (.slice zi yh.length yP) ∧ w'.cell? ⟨xW,5,none⟩ = some (.slice (some yt) xY.length yQ) ∧ w'.cell? ⟨xX,0,none⟩ = some (.int .i64 yG) ∧ w'.cell? ⟨xX,1,none⟩ = some (.bool yF) ∧ w'.cell? ⟨xX,2,none⟩ = some (.int .i64 yD) ∧ w'.cell? ⟨xX,3,none⟩ = some (.string yE) ∧ w'.cell? ⟨xX,4,none⟩ = some (.slice zP yj.length zw) ∧ w'.cell? ⟨xX,5,none⟩ = some (.slice (some yu) xZ.length zx) ∧ w'.cell? (yt.add ((xV).toNat * 7)) = some (.string ((aV xY xV).f0)) ∧ w'.cell? ⟨(yt.add ((xV).toNat * 7)).block,(yt.add ((xV).toNat * 7)).off + 1,none⟩ = some (.int .i64 ((aV xY xV).f1.f0)) ∧ w'.cell? ⟨(yt.add ((xV).toNat * 7)).block,(yt.add ((xV).toNat * 7)).off + 2,none⟩ = some (.bool ((aV xY xV).f1.f1)) ∧ w'.cell? ⟨(yt.add ((xV).toNat * 7)).block,(yt.add ((xV).toNat * 7)).off + 3,none⟩ = some (.int .i64 ((aV xY xV).f1.f2)) ∧ w'.cell? ⟨(yt.add ((xV).toNat * 7)).block,(yt.add ((xV).toNat * 7)).off + 4,none⟩ = some (.string ((aV xY xV).f1.f3)) ∧ w'.cell? ⟨(yt.add ((xV).toNat * 7)).block,(yt.add ((xV).toNat * 7)).off + 5,none⟩ = some (.slice BI ((aV xY xV).f1.f4).length BJ) ∧ w'.cell? ⟨(yt.add ((xV).toNat * 7)).block,(yt.add ((xV).toNat * 7)).off + 6,none⟩ = some (.slice BK ((aV xY xV).f1.f5).length BL) ∧ w'.cell? (yu.add ((xV).toNat * 7)) = some (.string ((aV xZ xV).f0)) ∧ w'.cell? ⟨(yu.add ((xV).toNat * 7)).block,(yu.add ((xV).toNat * 7)).off + 1,none⟩ = some (.int .i64 ((aV xZ xV).f1.f0)) ∧ w'.cell? ⟨(yu.add ((xV).toNat * 7)).block,(yu.add ((xV).toNat * 7)).off + 2,none⟩ = some (.bool ((aV xZ xV).f1.f1)) ∧ w'.cell? ⟨(yu.add ((xV).toNat * 7)).block,(yu.add ((xV).toNat * 7)).off + 3,none⟩ = some (.int .i64 ((aV xZ xV).f1.f2)) ∧ w'.cell? ⟨(yu.add ((xV).toNat * 7)).block,(yu.add ((xV).toNat * 7)).off + 4,none⟩ = some (.string ((aV xZ xV).f1.f3)) ∧ w'.cell? ⟨(yu.add ((xV).toNat * 7)).block,(yu.add ((xV).toNat * 7)).off + 5,none⟩ = some (.slice BM ((aV xZ xV).f1.f4).length BN) ∧ w'.cell? ⟨(yu.add ((xV).toNat * 7)).block,(yu.add ((xV).toNat * 7)).off + 6,none⟩ = some (.slice BO ((aV xZ xV).f1.f5).length BP) ∧ w'.cell? (yt.add ((xV).toNat * 7)) = some (.string ((aV xY xV).f0)) ∧ w'.cell? ⟨(yt.add ((xV).toNat * 7)).block,(yt.add ((xV).toNat * 7)).off + 1,none⟩ = some (.int .i64 ((aV xY xV).f1.f0)) ∧ w'.cell? ⟨(yt.add ((xV).toNat * 7)).block,(yt.add ((xV).toNat * 7)).off + 2,none⟩ = some (.bool ((aV xY xV).f1.f1)) ∧ w'.cell? ⟨(yt.add ((xV).toNat * 7)).block,(yt.add ((xV).toNat * 7)).off + 3,none⟩ = some (.int .i64 ((aV xY xV).f1.f2)) ∧ w'.cell? ⟨(yt.add ((xV).toNat * 7)).block,(yt.add ((xV).toNat * 7)).off + 4,none⟩ = some (.string ((aV xY xV).f1.f3)) ∧ w'.cell? ⟨(yt.add ((xV).toNat * 7)).block,(yt.add ((xV).toNat * 7)).off + 5,none⟩ = some (.slice BI ((aV xY xV).f1.f4).length BJ) ∧ w'.cell? ⟨(yt.add ((xV).toNat * 7)).block,(yt.add ((xV).toNat * 7)).off + 6,none⟩ = some (.slice BK ((aV xY xV).f1.f5).length BL) ∧ w'.cell? (yu.add ((xV).toNat * 7)) = some (.string ((aV xZ xV).f0)) ∧ w'.cell? ⟨(yu.add ((xV).toNat * 7)).block,(yu.add ((xV).toNat * 7)).off + 1,none⟩ = some (.int .i64 ((aV xZ xV).f1.f0)) ∧ w'.cell? ⟨(yu.add ((xV).toNat * 7)).block,(yu.add ((xV).toNat * 7)).off + 2,none⟩ = some (.bool ((aV xZ xV).f1.f1)) ∧ w'.cell? ⟨(yu.add ((xV).toNat * 7)).block,(yu.add ((xV).toNat * 7)).off + 3,none⟩ = some (.int .i64 ((aV xZ xV).f1.f2)) ∧ w'.cell? ⟨(yu.add ((xV).toNat * 7)).block,(yu.add ((xV).toNat * 7)).off + 4,none⟩ = some (.string ((aV xZ xV).f1.f3)) ∧ w'.cell? ⟨(yu.add ((xV).toNat * 7)).block,(yu.add ((xV).toNat * 7)).off + 5,none⟩ = some (.slice BM ((aV xZ xV).f1.f4).length BN) ∧ w'.cell? ⟨(yu.add ((xV).toNat * 7)).block,(yu.add ((xV).toNat * 7)).off + 6,none⟩ = some (.slice BO ((aV xZ xV).f1.f5).length BP)) (ds:=[]) #[false,false,false,false,false,false,false,false,false,false,false,false,false,false,false,false,false,false,false,false,false,false,false,false,false,false,false,false,false] (by kernel_rfl) rfl rfl ⟨(ah xS.out 0).trans rfl,(ah xS.out 1).trans rfl,(ah xS.out 2).trans rfl,(ah xS.out 3).trans rfl,(ah xS.out 4).trans rfl,(ah xS.out 5).trans rfl,(ah xU.out 0).trans rfl,(ah xU.out 1).trans rfl,(ah xU.out 2).trans rfl,(ah xU.out 3).trans rfl,(ah xU.out 4).trans rfl,(ah xU.out 5).trans rfl,((HB.out.cell (World.block_lt_of_cell? w _ zG)).trans zG),((HB.out.cell (World.block_lt_of_cell? w _ zF)).trans zF),((HB.out.cell (World.block_lt_of_cell? w _ zD)).trans zD),((HB.out.cell (World.block_lt_of_cell? w _ zC)).trans zC),((HB.out.cell (World.block_lt_of_cell? w _ zB)).trans zB),((HB.out.cell (World.block_lt_of_cell? w _ zA)).trans zA),((HB.out.cell (World.block_lt_of_cell? w _ zy)).trans zy),((HB.out.cell (World.block_lt_of_cell? w _ zN)).trans zN),((HB.out.cell (World.block_lt_of_cell? w _ zM)).trans zM),((HB.out.cell (World.block_lt_of_cell? w _ zL)).trans zL),((HB.out.cell (World.block_lt_of_cell? w _ zK)).trans zK),((HB.out.cell (World.block_lt_of_cell? w _ zJ)).trans zJ),((HB.out.cell (World.block_lt_of_cell? w _ zI)).trans zI),((HB.out.cell (World.block_lt_of_cell? w _ zH)).trans zH),((HB.out.cell (World.block_lt_of_cell? w _ Bl)).trans Bl),((HB.out.cell (World.block_lt_of_cell? w _ Bj)).trans Bj),((HB.out.cell (World.block_lt_of_cell? w _ Bh)).trans Bh),((HB.out.cell (World.block_lt_of_cell? w _ Bg)).trans Bg),((HB.out.cell (World.block_lt_of_cell? w _ Bf)).trans Bf),((HB.out.cell (World.block_lt_of_cell? w _ Bd)).trans Bd),((HB.out.cell (World.block_lt_of_cell? w _ Bc)).trans Bc),((HB.out.cell (World.block_lt_of_cell? w _ Bu)).trans Bu),((HB.out.cell (World.block_lt_of_cell? w _ Bt)).trans Bt),((HB.out.cell (World.block_lt_of_cell? w _ Br)).trans Br),((HB.out.cell (World.block_lt_of_cell? w _ Bq)).trans Bq),((HB.out.cell (World.block_lt_of_cell? w _ Bp)).trans Bp),((HB.out.cell (World.block_lt_of_cell? w _ Bo)).trans Bo),((HB.out.cell (World.block_lt_of_cell? w _ Bn)).trans Bn)⟩ (fun hHeld=>?_);refine fB aJ.pK aJ.nA (fun HT_ HW_=>?_)
               generalize wr.drew = Tc at xS xU HB Cn Co Cq Cr Cx Cy CJ CK yT yU yV yX yY yI yJ yZ za ze zf zh yK yL Ad Ae Af Ag Ah zn zo Ai Aj Ak Al Am zq zu hHeld ⊢
               refine bE (i:=0) (N:=some 94) (v:=?_) (a':=?_) #[true,false,false,false,false,false,false,false,false,false,false,false,false,false,false,false,false,false,false,false,false,false,false,false,false,false,false,false,false] rfl rfl (bg HT_.out (by kernel_rfl)) (fun _ _ _ h=>h) (Or.inl ⟨by rfl,?_⟩) ?_ ?_
               rotate_left
               ·intro w'
                go_simp
                with_reducible rfl
               rotate_left
               ·simp only [Act.put,List.setIfInBounds_toArray,List.set_cons_zero,List.set_cons_succ,aT,aU]
                rfl
               refine bE (i:=2) (N:=some 96) (v:=?_) (a':=?_) #[true,false,true,false,false,false,false,false,false,false,false,false,false,false,false,false,false,false,false,false,false,false,false,false,false,false,false,false,false] rfl rfl (bg HT_.out (by kernel_rfl)) (fun _ _ _ h=>h) (Or.inl ⟨by rfl,?_⟩) ?_ ?_
               rotate_left
               ·intro w'
                go_simp
                with_reducible rfl
               rotate_left
               ·simp only [Act.put,List.setIfInBounds_toArray,List.set_cons_zero,List.set_cons_succ,aT,aU]
                rfl
               refine bE (i:=6) (N:=some 100) (v:=?_) (a':=?_) #[true,false,true,false,false,false,true,false,false,false,false,false,false,false,false,false,false,false,false,false,false,false,false,false,false,false,false,false,false] rfl rfl (bg HT_.out (by kernel_rfl)) (fun _ _ _ h=>h) (Or.inl ⟨by rfl,?_⟩) ?_ ?_
               rotate_left
               ·intro w'
                go_simp
                with_reducible rfl
               rotate_left
               ·simp only [Act.put,List.setIfInBounds_toArray,List.set_cons_zero,List.set_cons_succ,aT,aU]
                rfl
               refine bE (i:=8) (N:=some 102) (v:=?_) (a':=?_) #[true,false,true,false,false,false,true,false,true,false,false,false,false,false,false,false,false,false,false,false,false,false,false,false,false,false,false,false,false] rfl rfl (bg HT_.out (by kernel_rfl)) (fun _ _ _ h=>h) (Or.inl ⟨by rfl,?_⟩) ?_ ?_
               rotate_left
               ·intro w'
                go_simp
                with_reducible rfl
               rotate_left
               ·simp only [Act.put,List.setIfInBounds_toArray,List.set_cons_zero,List.set_cons_succ,aT,aU]
                rfl
               refine dI (i:=1) (N:=some 95) (v:=?_) (a':=?_) #[true,true,true,false,false,false,true,false,true,false,false,false,false,false,false,false,false,false,false,false,false,false,false,false,false,false,false,false,false] rfl rfl (bU HT_.out HW_.out (by kernel_rfl)) (fun _ _ _ h=>h) (Or.inl ⟨by rfl,?_⟩) hHeld ?_ ?_
               rotate_left
               ·rintro w' ⟨s0,s1,s2,s3,s4,s5,s6,s7,s8,s9,s10,s11,s12,s13,CO,s15,s16,CP,CQ,CS,s20,CU,CV,CW,s24,DK,D6,D7,D8,D9,Ea,Eb,Ec,Ed,Ee,Ef,Eh,Ei,Ej,El⟩
                go_simp
                with_reducible rfl
               rotate_left
               ·simp only [Act.put,List.setIfInBounds_toArray,List.set_cons_zero,List.set_cons_succ,aT,aU]
                rfl
               refine bE (i:=3) (N:=some 97) (v:=?_) (a':=?_) #[true,true,true,true,false,false,true,false,true,false,false,false,false,false,false,false,false,false,false,false,false,false,false,false,false,false,false,false,false] rfl rfl (bg HT_.out (by kernel_rfl)) (fun _ _ _ h=>h) (Or.inl ⟨by rfl,?_⟩) ?_ ?_
               rotate_left
               ·intro w'
                go_simp
                with_reducible rfl
               rotate_left
               ·simp only [Act.put,List.setIfInBounds_toArray,List.set_cons_zero,List.set_cons_succ,aT,aU]
                rfl
               refine bE (i:=4) (N:=some 98) (v:=?_) (a':=?_) #[true,true,true,true,true,false,true,false,true,false,false,false,false,false,false,false,false,false,false,false,false,false,false,false,false,false,false,false,false] rfl rfl (bg HT_.out (by kernel_rfl)) (fun _ _ _ h=>h) (Or.inl ⟨by rfl,?_⟩) ?_ ?_
               rotate_left
               ·intro w'
                go_simp
                with_reducible rfl
               rotate_left
               ·simp only [Act.put,List.setIfInBounds_toArray,List.set_cons_zero,List.set_cons_succ,aT,aU]
                rfl
               refine dI (i:=5) (N:=some 99) (v:=?_) (a':=?_) #[true,true,true,true,true,true,true,false,true,false,false,false,false,false,false,false,false,false,false,false,false,false,false,false,false,false,false,false,false] rfl rfl (bU HT_.out HW_.out (by kernel_rfl)) (fun _ _ _ h=>h) (Or.inl ⟨by rfl,?_⟩) hHeld ?_ ?_
               rotate_left
               ·rintro w' ⟨s0,s1,s2,s3,s4,s5,s6,s7,s8,s9,s10,s11,s12,s13,CO,s15,s16,CP,CQ,CS,s20,CU,CV,CW,s24,DK,D6,D7,D8,D9,Ea,Eb,Ec,Ed,Ee,Ef,Eh,Ei,Ej,El⟩
                go_simp
                with_reducible rfl
               rotate_left
               ·simp only [Act.put,List.setIfInBounds_toArray,List.set_cons_zero,List.set_cons_succ,aT,aU]
                rfl
               refine dI (i:=7) (N:=some 101) (v:=?_) (a':=?_) #[true,true,true,true,true,true,true,true,true,false,false,false,false,false,false,false,false,false,false,false,false,false,false,false,false,false,false,false,false] rfl rfl (bU HT_.out HW_.out (by kernel_rfl)) (fun _ _ _ h=>h) (Or.inl ⟨by rfl,?_⟩) hHeld ?_ ?_
               rotate_left
               ·rintro w' ⟨s0,s1,s2,s3,s4,s5,s6,s7,s8,s9,s10,s11,s12,s13,CO,s15,s16,CP,CQ,CS,s20,CU,CV,CW,s24,DK,D6,D7,D8,D9,Ea,Eb,Ec,Ed,Ee,Ef,Eh,Ei,Ej,El⟩
                go_simp
                with_reducible rfl
               rotate_left
               ·simp only [Act.put,List.setIfInBounds_toArray,List.set_cons_zero,List.set_cons_succ,aT,aU]
                rfl
               refine bE (i:=9) (N:=some 103) (v:=?_) (a':=?_) #[true,true,true,true,true,true,true,true,true,true,false,false,false,false,false,false,false,false,false,false,false,false,false,false,false,false,false,false,false] rfl rfl (bg HT_.out (by kernel_rfl)) (fun _ _ _ h=>h) (Or.inl ⟨by rfl,?_⟩) ?_ ?_
               rotate_left
               ·intro w'
                go_simp
                with_reducible rfl
               rotate_left
               ·simp only [Act.put,List.setIfInBounds_toArray,List.set_cons_zero,List.set_cons_succ,aT,aU]
                rfl
               refine bE (i:=10) (N:=some 104) (v:=?_) (a':=?_) #[true,true,true,true,true,true,true,true,true,true,true,false,false,false,false,false,false,false,false,false,false,false,false,false,false,false,false,false,false] rfl rfl (bg HT_.out (by kernel_rfl)) (fun _ _ _ h=>h) (Or.inl ⟨by rfl,?_⟩) ?_ ?_
               rotate_left
               ·intro w'
                go_simp
                with_reducible rfl
               rotate_left
               ·simp only [Act.put,List.setIfInBounds_toArray,List.set_cons_zero,List.set_cons_succ,aT,aU]
                rfl
               refine dI (i:=11) (N:=some 105) (v:=?_) (a':=?_) #[true,true,true,true,true,true,true,true,true,true,true,true,false,false,false,false,false,false,false,false,false,false,false,false,false,false,false,false,false] rfl rfl (bU HT_.out HW_.out (by kernel_rfl)) (fun _ _ _ h=>h) (Or.inl ⟨by rfl,?_⟩) hHeld ?_ ?_
               rotate_left
               ·rintro w' ⟨s0,s1,s2,s3,s4,s5,s6,s7,s8,s9,s10,s11,s12,s13,CO,s15,s16,CP,CQ,CS,s20,CU,CV,CW,s24,DK,D6,D7,D8,D9,Ea,Eb,Ec,Ed,Ee,Ef,Eh,Ei,Ej,El⟩
                go_simp
                with_reducible rfl
               rotate_left
               ·simp only [Act.put,List.setIfInBounds_toArray,List.set_cons_zero,List.set_cons_succ,aT,aU]
                rfl
               refine bE (i:=12) (N:=some 106) (v:=?_) (a':=?_) #[true,true,true,true,true,true,true,true,true,true,true,true,true,false,false,false,false,false,false,false,false,false,false,false,false,false,false,false,false] rfl rfl (bg HT_.out (by kernel_rfl)) (fun _ _ _ h=>h) (Or.inl ⟨by rfl,?_⟩) ?_ ?_
               rotate_left
               ·intro w'
                go_simp
                with_reducible rfl
               rotate_left
               ·simp only [Act.put,List.setIfInBounds_toArray,List.set_cons_zero,List.set_cons_succ,aT,aU]
                rfl
               refine bE (i:=13) (N:=some 107) (v:=?_) (a':=?_) #[true,true,true,true,true,true,true,true,true,true,true,true,true,true,false,false,false,false,false,false,false,false,false,false,false,false,false,false,false] rfl rfl (bg HT_.out (by kernel_rfl)) (fun _ _ _ h=>h) (Or.inl ⟨by rfl,?_⟩) ?_ ?_
               rotate_left
               ·intro w'
                go_simp
                with_reducible rfl
               rotate_left
               ·simp only [Act.put,List.setIfInBounds_toArray,List.set_cons_zero,List.set_cons_succ,aT,aU]
                rfl
               refine bE (i:=14) (N:=some 108) (v:=?_) (a':=?_) #[true,true,true,true,true,true,true,true,true,true,true,true,true,true,true,false,false,false,false,false,false,false,false,false,false,false,false,false,false] rfl rfl (bg HT_.out (by kernel_rfl)) (fun _ _ _ h=>h) (Or.inl ⟨by rfl,?_⟩) ?_ ?_
               rotate_left
               ·intro w'
                go_simp
                with_reducible rfl
               rotate_left
               ·simp only [Act.put,List.setIfInBounds_toArray,List.set_cons_zero,List.set_cons_succ,aT,aU]
                rfl
               refine bE (i:=16) (N:=some 110) (v:=?_) (a':=?_) #[true,true,true,true,true,true,true,true,true,true,true,true,true,true,true,false,true,false,false,false,false,false,false,false,false,false,false,false,false] rfl rfl (bg HT_.out (by kernel_rfl)) (fun _ _ _ h=>h) (Or.inl ⟨by rfl,?_⟩) ?_ ?_
               rotate_left
               ·intro w'
                go_simp
                with_reducible rfl
               rotate_left
               ·simp only [Act.put,List.setIfInBounds_toArray,List.set_cons_zero,List.set_cons_succ,aT,aU]
                rfl
               refine bE (i:=20) (N:=some 114) (v:=?_) (a':=?_) #[true,true,true,true,true,true,true,true,true,true,true,true,true,true,true,false,true,false,false,false,true,false,false,false,false,false,false,false,false] rfl rfl (bg HT_.out (by kernel_rfl)) (fun _ _ _ h=>h) (Or.inl ⟨by rfl,?_⟩) ?_ ?_
               rotate_left
               ·intro w'
                go_simp
                with_reducible rfl
               rotate_left
               ·simp only [Act.put,List.setIfInBounds_toArray,List.set_cons_zero,List.set_cons_succ,aT,aU]
                rfl
               refine bE (i:=22) (N:=some 116) (v:=?_) (a':=?_) #[true,true,true,true,true,true,true,true,true,true,true,true,true,true,true,false,true,false,false,false,true,false,true,false,false,false,false,false,false] rfl rfl (bg HT_.out (by kernel_rfl)) (fun _ _ _ h=>h) (Or.inl ⟨by rfl,?_⟩) ?_ ?_
               rotate_left
               ·intro w'
                go_simp
                with_reducible rfl
               rotate_left
               ·simp only [Act.put,List.setIfInBounds_toArray,List.set_cons_zero,List.set_cons_succ,aT,aU]
                rfl
               refine dI (i:=15) (N:=some 109) (v:=?_) (a':=?_) #[true,true,true,true,true,true,true,true,true,true,true,true,true,true,true,true,true,false,false,false,true,false,true,false,false,false,false,false,false] rfl rfl (bU HT_.out HW_.out (by kernel_rfl)) (fun _ _ _ h=>h) (Or.inl ⟨by rfl,?_⟩) hHeld ?_ ?_
               rotate_left
               ·rintro w' ⟨s0,s1,s2,s3,s4,s5,s6,s7,s8,s9,s10,s11,s12,s13,CO,s15,s16,CP,CQ,CS,s20,CU,CV,CW,s24,DK,D6,D7,D8,D9,Ea,Eb,Ec,Ed,Ee,Ef,Eh,Ei,Ej,El⟩
                go_simp
                with_reducible rfl
               rotate_left
               ·simp only [Act.put,List.setIfInBounds_toArray,List.set_cons_zero,List.set_cons_succ,aT,aU]
                rfl
               refine bE (i:=17) (N:=some 111) (v:=?_) (a':=?_) #[true,true,true,true,true,true,true,true,true,true,true,true,true,true,true,true,true,true,false,false,true,false,true,false,false,false,false,false,false] rfl rfl (bg HT_.out (by kernel_rfl)) (fun _ _ _ h=>h) (Or.inl ⟨by rfl,?_⟩) ?_ ?_
               rotate_left
               ·intro w'
                go_simp
                with_reducible rfl
               rotate_left
               ·simp only [Act.put,List.setIfInBounds_toArray,List.set_cons_zero,List.set_cons_succ,aT,aU]
                rfl
               refine bE (i:=18) (N:=some 112) (v:=?_) (a':=?_) #[true,true,true,true,true,true,true,true,true,true,true,true,true,true,true,true,true,true,true,false,true,false,true,false,false,false,false,false,false] rfl rfl (bg HT_.out (by kernel_rfl)) (fun _ _ _ h=>h) (Or.inl ⟨by rfl,?_⟩) ?_ ?_
               rotate_left
               ·intro w'
                go_simp
                with_reducible rfl
               rotate_left
               ·simp only [Act.put,List.setIfInBounds_toArray,List.set_cons_zero,List.set_cons_succ,aT,aU]
                rfl
               refine dI (i:=19) (N:=some 113) (v:=?_) (a':=?_) #[true,true,true,true,true,true,true,true,true,true,true,true,true,true,true,true,true,true,true,true,true,false,true,false,false,false,false,false,false] rfl rfl (bU HT_.out HW_.out (by kernel_rfl)) (fun _ _ _ h=>h) (Or.inl ⟨by rfl,?_⟩) hHeld ?_ ?_
               rotate_left
               ·rintro w' ⟨s0,s1,s2,s3,s4,s5,s6,s7,s8,s9,s10,s11,s12,s13,CO,s15,s16,CP,CQ,CS,s20,CU,CV,CW,s24,DK,D6,D7,D8,D9,Ea,Eb,Ec,Ed,Ee,Ef,Eh,Ei,Ej,El⟩
                go_simp
                with_reducible rfl
               rotate_left
               ·simp only [Act.put,List.setIfInBounds_toArray,List.set_cons_zero,List.set_cons_succ,aT,aU]
                rfl
               refine dI (i:=21) (N:=some 115) (v:=?_) (a':=?_) #[true,true,true,true,true,true,true,true,true,true,true,true,true,true,true,true,true,true,true,true,true,true,true,false,false,false,false,false,false] rfl rfl (bU HT_.out HW_.out (by kernel_rfl)) (fun _ _ _ h=>h) (Or.inl ⟨by rfl,?_⟩) hHeld ?_ ?_
               rotate_left
               ·rintro w' ⟨s0,s1,s2,s3,s4,s5,s6,s7,s8,s9,s10,s11,s12,s13,CO,s15,s16,CP,CQ,CS,s20,CU,CV,CW,s24,DK,D6,D7,D8,D9,Ea,Eb,Ec,Ed,Ee,Ef,Eh,Ei,Ej,El⟩
                go_simp
                with_reducible rfl
               rotate_left
               ·simp only [Act.put,List.setIfInBounds_toArray,List.set_cons_zero,List.set_cons_succ,aT,aU]
                rfl
               refine bE (i:=23) (N:=some 117) (v:=?_) (a':=?_) #[true,true,true,true,true,true,true,true,true,true,true,true,true,true,true,true,true,true,true,true,true,true,true,true,false,false,false,false,false] rfl rfl (bg HT_.out (by kernel_rfl)) (fun _ _ _ h=>h) (Or.inl ⟨by rfl,?_⟩) ?_ ?_
               rotate_left
               ·intro w'
                go_simp
                with_reducible rfl
               rotate_left
               ·simp only [Act.put,List.setIfInBounds_toArray,List.set_cons_zero,List.set_cons_succ,aT,aU]
                rfl
               refine bE (i:=24) (N:=some 118) (v:=?_) (a':=?_) #[true,true,true,true,true,true,true,true,true,true,true,true,true,true,true,true,true,true,true,true,true,true,true,true,true,false,false,false,false] rfl rfl (bg HT_.out (by kernel_rfl)) (fun _ _ _ h=>h) (Or.inl ⟨by rfl,?_⟩) ?_ ?_
               rotate_left
               ·intro w'
                go_simp
                with_reducible rfl
               rotate_left
               ·simp only [Act.put,List.setIfInBounds_toArray,List.set_cons_zero,List.set_cons_succ,aT,aU]
                rfl
               refine dI (i:=25) (N:=some 119) (v:=?_) (a':=?_) #[true,true,true,true,true,true,true,true,true,true,true,true,true,true,true,true,true,true,true,true,true,true,true,true,true,true,false,false,false] rfl rfl (bU HT_.out HW_.out (by kernel_rfl)) (fun _ _ _ h=>h) (Or.inl ⟨by rfl,?_⟩) hHeld ?_ ?_
               rotate_left
               ·rintro w' ⟨s0,s1,s2,s3,s4,s5,s6,s7,s8,s9,s10,s11,s12,s13,CO,s15,s16,CP,CQ,CS,s20,CU,CV,CW,s24,DK,D6,D7,D8,D9,Ea,Eb,Ec,Ed,Ee,Ef,Eh,Ei,Ej,El⟩
                go_simp
                with_reducible rfl
               rotate_left
               ·simp only [Act.put,List.setIfInBounds_toArray,List.set_cons_zero,List.set_cons_succ,aT,aU]
                rfl
               refine fM (i:=26) (N:=some 120) #[true,true,true,true,true,true,true,true,true,true,true,true,true,true,true,true,true,true,true,true,true,true,true,true,true,true,true,false,false] rfl rfl (dx HT_.out (by kernel_rfl)) (by decide) (fun K hK=>?_)
               refine gq Tryd.func13 (by kernel_rfl) rfl #[.agg #[.int .i64 ((aV xY xV).f1.f0),.bool ((aV xY xV).f1.f1),.int .i64 ((aV xY xV).f1.f2),.string ((aV xY xV).f1.f3),.slice BI ((aV xY xV).f1.f4).length BJ,.slice BK ((aV xY xV).f1.f5).length BL],.agg #[.int .i64 ((aV xZ xV).f1.f0),.bool ((aV xZ xV).f1.f1),.int .i64 ((aV xZ xV).f1.f2),.string ((aV xZ xV).f1.f3),.slice BM ((aV xZ xV).f1.f4).length BN,.slice BO ((aV xZ xV).f1.f5).length BP]] (by rfl) rfl rfl (by (try simp only [List.map_toArray,List.map_cons,List.map_nil]);first|done|rfl|(simp only [List.length_drop,List.length_take];rfl)) ?_
               with_reducible refine (ih k3 (by have:=HJ2.out;have:=EM.out;have:=QO.out;omega) ((aV xY xV).f1.f0) ((aV xY xV).f1.f1) ((aV xY xV).f1.f2) ((aV xY xV).f1.f3) _ _ ((aV xY xV).f1.f4) _ _ ((aV xY xV).f1.f5) ((aV xZ xV).f1.f0) ((aV xZ xV).f1.f1) ((aV xZ xV).f1.f2) ((aV xZ xV).f1.f3) _ _ ((aV xZ xV).f1.f4) _ _ ((aV xZ xV).f1.f5) true _ ?Df ?Dh ?Di ?Dj ?Dk ?Dl ?Dm ?Dn SB.out).mono ?_
               (case Df=>repeat (first|exact (Kd.bQ Cx.out HB.out)|(with_reducible refine Kd.bW ?_ _)|(with_reducible refine Kd.bX ?_ _)|(with_reducible refine Kd.dh ?_)))
               (case Dh=>exact DC.out)
               (case Di=>repeat (first|exact (Kd.bQ Cy.out HB.out)|(with_reducible refine Kd.bW ?_ _)|(with_reducible refine Kd.bX ?_ _)|(with_reducible refine Kd.dh ?_)))
               (case Dj=>exact DF.out)
               (case Dk=>repeat (first|exact (Kd.bQ CJ.out HB.out)|(with_reducible refine Kd.bW ?_ _)|(with_reducible refine Kd.bX ?_ _)|(with_reducible refine Kd.dh ?_)))
               (case Dl=>exact DI.out)
               (case Dm=>repeat (first|exact (Kd.bQ CK.out HB.out)|(with_reducible refine Kd.bW ?_ _)|(with_reducible refine Kd.bX ?_ _)|(with_reducible refine Kd.dh ?_)))
               (case Dn=>exact DJ.out)
               rintro e Td ⟨rfl,hb⟩
               refine ⟨_,rfl,?_⟩
               have BQ:=Aside0.mk (aI (g:=xW) (o:=.cells #[.int .i64 yc,.bool yA,.int .i64 yw,.string yx,.slice zi yh.length yP,.slice (some yt) xY.length yQ] 33 (0,0)) (bk_ xS.out) hb)
               have BR:=Aside0.mk (aI (g:=xX) (o:=.cells #[.int .i64 yG,.bool yF,.int .i64 yD,.string yE,.slice zP yj.length zw,.slice (some yu) xZ.length zx] 33 (0,0)) (bk_ xU.out) hb)
               have BS:=Aside0.mk (aK (by repeat (first|(with_reducible first|exact HB.out|apply av|apply ak|apply au|refine aG ?_ yH.out|refine aG ?_ yO.out)|exact HB.out)) hb)
               clear xS
               clear xU
               clear HB
               have xS:=BQ
               have xU:=BR
               have HB:=BS
               clear BQ BR BS
               (try clear hb)
               (try clear hb2)
               (try clear hk)
               (try clear hi)
               refine hK.out _ _ ⟨(ah xS.out 0).trans rfl,(ah xS.out 1).trans rfl,(ah xS.out 2).trans rfl,(ah xS.out 3).trans rfl,(ah xS.out 4).trans rfl,(ah xS.out 5).trans rfl,(ah xU.out 0).trans rfl,(ah xU.out 1).trans rfl,(ah xU.out 2).trans rfl,(ah xU.out 3).trans rfl,(ah xU.out 4).trans rfl,(ah xU.out 5).trans rfl,((HB.out.cell (World.block_lt_of_cell? w _ zG)).trans zG),((HB.out.cell (World.block_lt_of_cell? w _ zF)).trans zF),((HB.out.cell (World.block_lt_of_cell? w _ zD)).trans zD),((HB.out.cell (World.block_lt_of_cell? w _ zC)).trans zC),((HB.out.cell (World.block_lt_of_cell? w _ zB)).trans zB),((HB.out.cell (World.block_lt_of_cell? w _ zA)).trans zA),((HB.out.cell (World.block_lt_of_cell? w _ zy)).trans zy),((HB.out.cell (World.block_lt_of_cell? w _ zN)).trans zN),((HB.out.cell (World.block_lt_of_cell? w _ zM)).trans zM),((HB.out.cell (World.block_lt_of_cell? w _ zL)).trans zL),((HB.out.cell (World.block_lt_of_cell? w _ zK)).trans zK),((HB.out.cell (World.block_lt_of_cell? w _ zJ)).trans zJ),((HB.out.cell (World.block_lt_of_cell? w _ zI)).trans zI),((HB.out.cell (World.block_lt_of_cell? w _ zH)).trans zH),((HB.out.cell (World.block_lt_of_cell? w _ Bl)).trans Bl),((HB.out.cell (World.block_lt_of_cell? w _ Bj)).trans Bj),((HB.out.cell (World.block_lt_of_cell? w _ Bh)).trans Bh),((HB.out.cell (World.block_lt_of_cell? w _ Bg)).trans Bg),((HB.out.cell (World.block_lt_of_cell? w _ Bf)).trans Bf),((HB.out.cell (World.block_lt_of_cell? w _ Bd)).trans Bd),((HB.out.cell (World.block_lt_of_cell? w _ Bc)).trans Bc),((HB.out.cell (World.block_lt_of_cell? w _ Bu)).trans Bu),((HB.out.cell (World.block_lt_of_cell? w _ Bt)).trans Bt),((HB.out.cell (World.block_lt_of_cell? w _ Br)).trans Br),((HB.out.cell (World.block_lt_of_cell? w _ Bq)).trans Bq),((HB.out.cell (World.block_lt_of_cell? w _ Bp)).trans Bp),((HB.out.cell (World.block_lt_of_cell? w _ Bo)).trans Bo),((HB.out.cell (World.block_lt_of_cell? w _ Bn)).trans Bn)⟩ (fun hHeld=>?_)
               clear hK K
               refine cB (a':=?_) ?_ ?_
               rotate_left
               ·show Act.put _ (some 120) _ = _
                simp only [Act.put,List.setIfInBounds_toArray,List.set_cons_zero,List.set_cons_succ,aT,aU]
                rfl
               refine bE (i:=27) (N:=some 121) (v:=?_) (a':=?_) #[true,true,true,true,true,true,true,true,true,true,true,true,true,true,true,true,true,true,true,true,true,true,true,true,true,true,true,true,false] rfl rfl (bg HT_.out (by kernel_rfl)) (fun _ _ _ h=>h) (Or.inl ⟨by rfl,?_⟩) ?_ ?_
               rotate_left
               ·intro w'
                go_simp
                with_reducible rfl
               rotate_left
               ·simp only [Act.put,List.setIfInBounds_toArray,List.set_cons_zero,List.set_cons_succ,aT,aU]
                rfl
               refine bE (i:=28) (N:=some 122) (v:=?_) (a':=?_) #[true,true,true,true,true,true,true,true,true,true,true,true,true,true,true,true,true,true,true,true,true,true,true,true,true,true,true,true,true] rfl rfl (bg HT_.out (by kernel_rfl)) (fun _ _ _ h=>h) (Or.inl ⟨by rfl,?_⟩) ?_ ?_
               rotate_left
               ·intro w'
                go_simp
                with_reducible rfl
               rotate_left
               ·simp only [Act.put,List.setIfInBounds_toArray,List.set_cons_zero,List.set_cons_succ,aT,aU]
                rfl
               refine jh (gL HT_.out (by kernel_rfl)) ?_
               try go_wp2
               go_roundg k3
               case measure=>have:=HJ2.out;have:=EM.out;have:=QO.out;omega
               case rel=>exact ⟨(wrap64 (xV + 1)),(by first|rfl|(simp;done)|(simp [*];done)),H',⟨by have:=HJ2.out;have:=EM.out;have:=QO.out;omega⟩,⟨by (with_reducible repeat (first|apply aA|apply aD|apply ay));exact xS.out⟩,⟨by (with_reducible repeat (first|apply aA|apply aD|apply ay));exact xU.out⟩,⟨by repeat (first|(with_reducible first|exact HB.out|apply av|apply ak|apply au|refine aG ?_ yH.out|refine aG ?_ yO.out)|exact HB.out)⟩⟩
              ·replace QT:=Bool.eq_false_iff.mpr QT
               subst QT
               have H1 : (some false) = some r:=by rw [if_neg (show ¬ (false = true) by decide)] at H;exact H
               clear H
               have H:=H1
               clear H1
               obtain rfl:=Option.some.inj H
               have SF:=yB.out
               have SG:=yC.out
               have Ra : wr.cell? ⟨xW,0,none⟩ = some (.int .i64 yc):=(ah xS.out 0).trans rfl
               have Rb : wr.cell? ⟨xW,1,none⟩ = some (.bool yA):=(ah xS.out 1).trans rfl
               have Rc : wr.cell? ⟨xW,2,none⟩ = some (.int .i64 yw):=(ah xS.out 2).trans rfl
               have Rf : wr.cell? ⟨xW,3,none⟩ = some (.string yx):=(ah xS.out 3).trans rfl
               have Rh : wr.cell? ⟨xW,4,none⟩ = some (.slice zi yh.length yP):=(ah xS.out 4).trans rfl
               have Ri : wr.cell? ⟨xW,5,none⟩ = some (.slice zm xY.length yQ):=(ah xS.out 5).trans rfl
               have Rj:=aj xS.out 0
               have Rk:=aj xS.out 1
               have Rl:=aj xS.out 2
               have Rm:=aj xS.out 3
               have Rn:=aj xS.out 4
               have Ro:=aj xS.out 5
               try go_wp2
               have BQ:=Aside0.mk (aD xS.out)
               have BR:=Aside0.mk (aD xU.out)
               have BS:=Aside0.mk (au HB.out)
               clear xS
               clear xU
               clear HB
               have xS:=BQ
               have xU:=BR
               have HB:=BS
               clear BQ BR BS
               have Dp : 0 ≤ (xV : Int):=of_decide_eq_true (by first|(with_reducible assumption)|assumption)
               have Dq : xV < (xY.length : Int):=of_decide_eq_true (by first|(with_reducible assumption)|assumption)
               obtain ⟨yt,BI,BJ,BK,BL,EH,yT,yU,yV,yX,yY,yI,yJ,Bv,Bw,Bz,BA⟩:=iG DL.out xV Dp Dq
               have zy:=yJ
               have zA:=yI
               have zB:=yY
               have zC:=yX
               have zD:=yV
               have zF:=yU
               have zG:=yT
               cases EH
               replace yT:=(HB.out.cell (World.block_lt_of_cell? w _ yT)).trans yT
               replace yU:=(HB.out.cell (World.block_lt_of_cell? w _ yU)).trans yU
               replace yV:=(HB.out.cell (World.block_lt_of_cell? w _ yV)).trans yV
               replace yX:=(HB.out.cell (World.block_lt_of_cell? w _ yX)).trans yX
               replace yY:=(HB.out.cell (World.block_lt_of_cell? w _ yY)).trans yY
               replace yI:=(HB.out.cell (World.block_lt_of_cell? w _ yI)).trans yI
               replace yJ:=(HB.out.cell (World.block_lt_of_cell? w _ yJ)).trans yJ
               have Cn:=Aside0.mk Bw
               have En:=Aside0.mk Bv
               clear Bw Bv
               have Co:=Aside0.mk BA
               have Eo:=Aside0.mk Bz
               clear BA Bz
               replace Dp:=eq_true Dp
               replace Dq:=eq_true Dq
               have Dr : 0 ≤ (xV : Int):=of_decide_eq_true (by first|(with_reducible assumption)|assumption)
               have Dt : xV < (xZ.length : Int):=of_decide_eq_true (by first|(with_reducible assumption)|assumption)
               obtain ⟨yu,BM,BN,BO,BP,e197,yZ,za,ze,zf,zh,yK,yL,BD,BF,BG,BH⟩:=iG DN.out xV Dr Dt
               have zH:=yL
               have zI:=yK
               have zJ:=zh
               have zK:=zf
               have zL:=ze
               have zM:=za
               have zN:=yZ
               cases e197
               replace yZ:=(HB.out.cell (World.block_lt_of_cell? w _ yZ)).trans yZ
               replace za:=(HB.out.cell (World.block_lt_of_cell? w _ za)).trans za
               replace ze:=(HB.out.cell (World.block_lt_of_cell? w _ ze)).trans ze
               replace zf:=(HB.out.cell (World.block_lt_of_cell? w _ zf)).trans zf
               replace zh:=(HB.out.cell (World.block_lt_of_cell? w _ zh)).trans zh
               replace yK:=(HB.out.cell (World.block_lt_of_cell? w _ yK)).trans yK
               replace yL:=(HB.out.cell (World.block_lt_of_cell? w _ yL)).trans yL
               have Cq:=Aside0.mk BF
               have Ep:=Aside0.mk BD
               clear BF BD
               have Cr:=Aside0.mk BH
               have Er:=Aside0.mk BG
               clear BH BG
               replace Dr:=eq_true Dr
               replace Dt:=eq_true Dt
               have DW : 0 ≤ (xV : Int):=of_decide_eq_true (by first|(with_reducible assumption)|assumption)
               have DX : xV < (xY.length : Int):=of_decide_eq_true (by first|(with_reducible assumption)|assumption)
               obtain ⟨EI,E8,Fa,Fb,Fe,Fg,Ad,Ae,Af,Ag,Ah,zn,zo,Ct,Cu,Cv,Cw⟩:=iG DL.out xV DW DX
               have Bc:=zo
               have Bd:=zn
               have Bf:=Ah
               have Bg:=Ag
               have Bh:=Af
               have Bj:=Ae
               have Bl:=Ad
               obtain rfl : yt = EI:=(by injection Fg)
               replace Ad:=(HB.out.cell (World.block_lt_of_cell? w _ Ad)).trans Ad
               replace Ae:=(HB.out.cell (World.block_lt_of_cell? w _ Ae)).trans Ae
               replace Af:=(HB.out.cell (World.block_lt_of_cell? w _ Af)).trans Af
               replace Ag:=(HB.out.cell (World.block_lt_of_cell? w _ Ag)).trans Ag
               replace Ah:=(HB.out.cell (World.block_lt_of_cell? w _ Ah)).trans Ah
               replace zn:=(HB.out.cell (World.block_lt_of_cell? w _ zn)).trans zn
               replace zo:=(HB.out.cell (World.block_lt_of_cell? w _ zo)).trans zo
               have Cx:=Aside0.mk Cu
               have DC:=Aside0.mk Ct
               clear Cu Ct
               have Cy:=Aside0.mk Cw
               have DF:=Aside0.mk Cv
               clear Cw Cv
               replace DW:=eq_true DW
               replace DX:=eq_true DX
               have ea_:=Option.some.inj (yI.symm.trans zn)
               injection ea_ with ea_ en_ ec_
               subst ea_
               subst ec_
               clear en_
               have ea_:=Option.some.inj (yJ.symm.trans zo)
               injection ea_ with ea_ en_ ec_
               subst ea_
               subst ec_
               clear en_
               have DY : 0 ≤ (xV : Int):=of_decide_eq_true (by first|(with_reducible assumption)|assumption)
               have DZ : xV < (xZ.length : Int):=of_decide_eq_true (by first|(with_reducible assumption)|assumption)
               obtain ⟨EJ,Fh,Fj,Fp,Fq,e199,Ai,Aj,Ak,Al,Am,zq,zu,Cz,CB,CF,CG⟩:=iG DN.out xV DY DZ
               have Bn:=zu
               have Bo:=zq
               have Bp:=Am
               have Bq:=Al
               have Br:=Ak
               have Bt:=Aj
               have Bu:=Ai
               obtain rfl : yu = EJ:=(by injection e199)
               replace Ai:=(HB.out.cell (World.block_lt_of_cell? w _ Ai)).trans Ai
               replace Aj:=(HB.out.cell (World.block_lt_of_cell? w _ Aj)).trans Aj
               replace Ak:=(HB.out.cell (World.block_lt_of_cell? w _ Ak)).trans Ak
               replace Al:=(HB.out.cell (World.block_lt_of_cell? w _ Al)).trans Al
               replace Am:=(HB.out.cell (World.block_lt_of_cell? w _ Am)).trans Am
               replace zq:=(HB.out.cell (World.block_lt_of_cell? w _ zq)).trans zq
               replace zu:=(HB.out.cell (World.block_lt_of_cell? w _ zu)).trans zu
               have CJ:=Aside0.mk CB
               have DI:=Aside0.mk Cz
               clear CB Cz
               have CK:=Aside0.mk CG
               have DJ:=Aside0.mk CF
               clear CG CF
               replace DY:=eq_true DY
               replace DZ:=eq_true DZ
               have ea_:=Option.some.inj (yK.symm.trans zq)
               injection ea_ with ea_ en_ ec_
               subst ea_
               subst ec_
               clear en_
               have ea_:=Option.some.inj (yL.symm.trans zu)
               injection ea_ with ea_ en_ ec_
               subst ea_
               subst ec_
               clear en_
               refine iE (n:=29) (S:=fun w'=>w'.cell? ⟨xW,0,none⟩ = some (.int .i64 yc) ∧ w'.cell? ⟨xW,1,none⟩ = some (.bool yA) ∧ w'.cell? ⟨xW,2,none⟩ = some (.int .i64 yw) ∧ w'.cell? ⟨xW,3,none⟩ = some (.string yx) ∧ w'.cell? ⟨xW,4,none⟩ = some (.slice zi yh.length yP) ∧ w'.cell? ⟨xW,5,none⟩ = some (.slice (some yt) xY.length yQ) ∧ w'.cell? ⟨xX,0,none⟩ = some (.int .i64 yG) ∧ w'.cell? ⟨xX,1,none⟩ = some (.bool yF) ∧ w'.cell? ⟨xX,2,none⟩ = some (.int .i64 yD) ∧ w'.cell? ⟨xX,3,none⟩ = some (.string yE) ∧ w'.cell? ⟨xX,4,none⟩ = some (.slice zP yj.length zw) ∧ w'.cell? ⟨xX,5,none⟩ = some (.slice (some yu) xZ.length zx) ∧ w'.cell? (yt.add ((xV).toNat * 7)) = some (.string ((aV xY xV).f0)) ∧ w'.cell? ⟨(yt.add ((xV).toNat * 7)).block,(yt.add ((xV).toNat * 7)).off + 1,none⟩ = some (.int .i64 ((aV xY xV).f1.f0)) ∧ w'.cell? ⟨(yt.add ((xV).toNat * 7)).block,(yt.add ((xV).toNat * 7)).off + 2,none⟩ = some (.bool ((aV xY xV).f1.f1)) ∧ w'.cell? ⟨(yt.add ((xV).toNat * 7)).block,(yt.add ((xV).toNat * 7)).off + 3,none⟩ = some (.int .i64 ((aV xY xV).f1.f2)) ∧ w'.cell? ⟨(yt.add ((xV).toNat * 7)).block,(yt.add ((xV).toNat * 7)).off + 4,none⟩ = some (.string ((aV xY xV).f1.f3)) ∧ w'.cell? ⟨(yt.add ((xV).toNat * 7)).block,(yt.add ((xV).toNat * 7)).off + 5,none⟩ = some (.slice BI ((aV xY xV).f1.f4).length BJ) ∧ w'.cell? ⟨(yt.add ((xV).toNat * 7)).block,(yt.add ((xV).toNat * 7)).off + 6,none⟩ = some (.slice BK ((aV xY xV).f1.f5).length BL) ∧ w'.cell? (yu.add ((xV).toNat * 7)) = some (.string ((aV xZ xV).f0)) ∧ w'.cell? ⟨(yu.add ((xV).toNat * 7)).block,(yu.add ((xV).toNat * 7)).off + 1,none⟩ = some (.int .i64 ((aV xZ xV).f1.f0)) ∧ w'.cell? ⟨(yu.add ((xV).toNat * 7)).block,(yu.add ((xV).toNat * 7)).off + 2,none⟩ = some (.bool ((aV xZ xV).f1.f1)) ∧ w'.cell? ⟨(yu.add ((xV).toNat * 7)).block,(yu.add ((xV).toNat * 7)).off + 3,none⟩ = some (.int .i64 ((aV xZ xV).f1.f2)) ∧ w'.cell? ⟨(yu.add ((xV).toNat * 7)).block,(yu.add ((xV).toNat * 7)).off + 4,none⟩ = some (.string ((aV xZ xV).f1.f3)) ∧ w'.cell? ⟨(yu.add ((xV).toNat * 7)).block,(yu.add ((xV).toNat * 7)).off + 5,none⟩ = some (.slice BM ((aV xZ xV).f1.f4).length BN) ∧ w'.cell? ⟨(yu.add ((xV).toNat * 7)).block,(yu.add ((xV).toNat * 7)).off + 6,none⟩ = some (.slice BO ((aV xZ xV).f1.f5).length BP) ∧ w'.cell? (yt.add ((xV).toNat * 7)) = some (.string ((aV xY xV).f0)) ∧ w'.cell? ⟨(yt.add ((xV).toNat * 7)).block,(yt.add ((xV).toNat * 7)).off + 1,none⟩ = some (.int .i64 ((aV xY xV).f1.f0)) ∧ w'.cell? ⟨(yt.add ((xV).toNat * 7)).block,(yt.add ((xV).toNat * 7)).off + 2,none⟩ = some (.bool ((aV xY xV).f1.f1)) ∧ w'.cell? ⟨(yt.add ((xV).toNat * 7)).block,(yt.add ((xV).toNat * 7)).off + 3,none⟩ = some (.int .i64 ((aV xY xV).f1.f2)) ∧ w'.cell? ⟨(yt.add ((xV).toNat * 7)).block,(yt.add ((xV).toNat * 7)).off + 4,none⟩ = some (.string ((aV xY xV).f1.f3)) ∧ w'.cell? ⟨(yt.add ((xV).toNat * 7)).block,(yt.add ((xV).toNat * 7)).off + 5,none⟩ = some (.slice BI ((aV xY xV).f1.f4).length BJ) ∧ w'.cell? ⟨(yt.add ((xV).toNat * 7)).block,(yt.add ((xV).toNat * 7)).off + 6,none⟩ = some (.slice BK ((aV xY xV).f1.f5).length BL) ∧ w'.cell? (yu.add ((xV).toNat * 7)) = some (.string ((aV xZ xV).f0)) ∧ w'.cell? ⟨(yu.add ((xV).toNat * 7)).block,(yu.add ((xV).toNat * 7)).off + 1,none⟩ = some (.int .i64 ((aV xZ xV).f1.f0)) ∧ w'.cell? ⟨(yu.add ((xV).toNat * 7)).block,(yu.add ((xV).toNat * 7)).off + 2,none⟩ = some (.bool ((aV xZ xV).f1.f1)) ∧ w'.cell? ⟨(yu.add ((xV).toNat * 7)).block,(yu.add ((xV).toNat * 7)).off + 3,none⟩ = some (.int .i64 ((aV xZ xV).f1.f2)) ∧ w'.cell? ⟨(yu.add ((xV).toNat * 7)).block,(yu.add ((xV).toNat * 7)).off + 4,none⟩ = some (.string ((aV xZ xV).f1.f3)) ∧ w'.cell? ⟨(yu.add ((xV).toNat * 7)).block,(yu.add ((xV).toNat * 7)).off + 5,none⟩ = some (.slice BM ((aV xZ xV).f1.f4).length BN) ∧ w'.cell? ⟨(yu.add ((xV).toNat * 7)).block,(yu.add ((xV).toNat * 7)).off + 6,none⟩ = some (.slice BO ((aV xZ xV).f1.f5).length BP)) (ds:=[]) #[false,false,false,false,false,false,false,false,false,false,false,false,false,false,false,false,false,false,false,false,false,false,false,false,false,false,false,false,false] (by kernel_rfl) rfl rfl ⟨(ah xS.out 0).trans rfl,(ah xS.out 1).trans rfl,(ah xS.out 2).trans rfl,(ah xS.out 3).trans rfl,(ah xS.out 4).trans rfl,(ah xS.out 5).trans rfl,(ah xU.out 0).trans rfl,(ah xU.out 1).trans rfl,(ah xU.out 2).trans rfl,(ah xU.out 3).trans rfl,(ah xU.out 4).trans rfl,(ah xU.out 5).trans rfl,((HB.out.cell (World.block_lt_of_cell? w _ zG)).trans zG),((HB.out.cell (World.block_lt_of_cell? w _ zF)).trans zF),((HB.out.cell (World.block_lt_of_cell? w _ zD)).trans zD),((HB.out.cell (World.block_lt_of_cell? w _ zC)).trans zC),((HB.out.cell (World.block_lt_of_cell? w _ zB)).trans zB),((HB.out.cell (World.block_lt_of_cell? w _ zA)).trans zA),((HB.out.cell (World.block_lt_of_cell? w _ zy)).trans zy),((HB.out.cell (World.block_lt_of_cell? w _ zN)).trans zN),((HB.out.cell (World.block_lt_of_cell? w _ zM)).trans zM),((HB.out.cell (World.block_lt_of_cell? w _ zL)).trans zL),((HB.out.cell (World.block_lt_of_cell? w _ zK)).trans zK),((HB.out.cell (World.block_lt_of_cell? w _ zJ)).trans zJ),((HB.out.cell (World.block_lt_of_cell? w _ zI)).trans zI),((HB.out.cell (World.block_lt_of_cell? w _ zH)).trans zH),((HB.out.cell (World.block_lt_of_cell? w _ Bl)).trans Bl),((HB.out.cell (World.block_lt_of_cell? w _ Bj)).trans Bj),((HB.out.cell (World.block_lt_of_cell? w _ Bh)).trans Bh),((HB.out.cell (World.block_lt_of_cell? w _ Bg)).trans Bg),((HB.out.cell (World.block_lt_of_cell? w _ Bf)).trans Bf),((HB.out.cell (World.block_lt_of_cell? w _ Bd)).trans Bd),((HB.out.cell (World.block_lt_of_cell? w _ Bc)).trans Bc),((HB.out.cell (World.block_lt_of_cell? w _ Bu)).trans Bu),((HB.out.cell (World.block_lt_of_cell? w _ Bt)).trans Bt),((HB.out.cell (World.block_lt_of_cell? w _ Br)).trans Br),((HB.out.cell (World.block_lt_of_cell? w _ Bq)).trans Bq),((HB.out.cell (World.block_lt_of_cell? w _ Bp)).trans Bp),((HB.out.cell (World.block_lt_of_cell? w _ Bo)).trans Bo),((HB.out.cell (World.block_lt_of_cell? w _ Bn)).trans Bn)⟩ (fun hHeld=>?_);refine fB aJ.pK aJ.nA (fun HT_ HW_=>?_)
               generalize wr.drew = Te at xS xU HB Cn Co Cq Cr Cx Cy CJ CK yT yU yV yX yY yI yJ yZ za ze zf zh yK yL Ad Ae Af Ag Ah zn zo Ai Aj Ak Al Am zq zu hHeld ⊢
               refine bE (i:=0) (N:=some 94) (v:=?_) (a':=?_) #[true,false,false,false,false,false,false,false,false,false,false,false,false,false,false,false,false,false,false,false,false,false,false,false,false,false,false,false,false] rfl rfl (bg HT_.out (by kernel_rfl)) (fun _ _ _ h=>h) (Or.inl ⟨by rfl,?_⟩) ?_ ?_
               rotate_left
               ·intro w'
                go_simp
                with_reducible rfl
               rotate_left
               ·simp only [Act.put,List.setIfInBounds_toArray,List.set_cons_zero,List.set_cons_succ,aT,aU]
                rfl
               refine bE (i:=2) (N:=some 96) (v:=?_) (a':=?_) #[true,false,true,false,false,false,false,false,false,false,false,false,false,false,false,false,false,false,false,false,false,false,false,false,false,false,false,false,false] rfl rfl (bg HT_.out (by kernel_rfl)) (fun _ _ _ h=>h) (Or.inl ⟨by rfl,?_⟩) ?_ ?_
               rotate_left
               ·intro w'
                go_simp
                with_reducible rfl
               rotate_left
               ·simp only [Act.put,List.setIfInBounds_toArray,List.set_cons_zero,List.set_cons_succ,aT,aU]
                rfl
               refine bE (i:=6) (N:=some 100) (v:=?_) (a':=?_) #[true,false,true,false,false,false,true,false,false,false,false,false,false,false,false,false,false,false,false,false,false,false,false,false,false,false,false,false,false] rfl rfl (bg HT_.out (by kernel_rfl)) (fun _ _ _ h=>h) (Or.inl ⟨by rfl,?_⟩) ?_ ?_
               rotate_left
               ·intro w'
                go_simp
                with_reducible rfl
               rotate_left
               ·simp only [Act.put,List.setIfInBounds_toArray,List.set_cons_zero,List.set_cons_succ,aT,aU]
                rfl
               refine bE (i:=8) (N:=some 102) (v:=?_) (a':=?_) #[true,false,true,false,false,false,true,false,true,false,false,false,false,false,false,false,false,false,false,false,false,false,false,false,false,false,false,false,false] rfl rfl (bg HT_.out (by kernel_rfl)) (fun _ _ _ h=>h) (Or.inl ⟨by rfl,?_⟩) ?_ ?_
               rotate_left
               ·intro w'
                go_simp
                with_reducible rfl
               rotate_left
               ·simp only [Act.put,List.setIfInBounds_toArray,List.set_cons_zero,List.set_cons_succ,aT,aU]
                rfl
               refine dI (i:=1) (N:=some 95) (v:=?_) (a':=?_) #[true,true,true,false,false,false,true,false,true,false,false,false,false,false,false,false,false,false,false,false,false,false,false,false,false,false,false,false,false] rfl rfl (bU HT_.out HW_.out (by kernel_rfl)) (fun _ _ _ h=>h) (Or.inl ⟨by rfl,?_⟩) hHeld ?_ ?_
               rotate_left
               ·rintro w' ⟨s0,s1,s2,s3,s4,s5,s6,s7,s8,s9,s10,s11,s12,s13,CO,s15,s16,CP,CQ,CS,s20,CU,CV,CW,s24,DK,D6,D7,D8,D9,Ea,Eb,Ec,Ed,Ee,Ef,Eh,Ei,Ej,El⟩
                go_simp
                with_reducible rfl
               rotate_left
               ·simp only [Act.put,List.setIfInBounds_toArray,List.set_cons_zero,List.set_cons_succ,aT,aU]
                rfl
               refine bE (i:=3) (N:=some 97) (v:=?_) (a':=?_) #[true,true,true,true,false,false,true,false,true,false,false,false,false,false,false,false,false,false,false,false,false,false,false,false,false,false,false,false,false] rfl rfl (bg HT_.out (by kernel_rfl)) (fun _ _ _ h=>h) (Or.inl ⟨by rfl,?_⟩) ?_ ?_
               rotate_left
               ·intro w'
                go_simp
                with_reducible rfl
               rotate_left
               ·simp only [Act.put,List.setIfInBounds_toArray,List.set_cons_zero,List.set_cons_succ,aT,aU]
                rfl
               refine bE (i:=4) (N:=some 98) (v:=?_) (a':=?_) #[true,true,true,true,true,false,true,false,true,false,false,false,false,false,false,false,false,false,false,false,false,false,false,false,false,false,false,false,false] rfl rfl (bg HT_.out (by kernel_rfl)) (fun _ _ _ h=>h) (Or.inl ⟨by rfl,?_⟩) ?_ ?_
               rotate_left
               ·intro w'
                go_simp
                with_reducible rfl
               rotate_left
               ·simp only [Act.put,List.setIfInBounds_toArray,List.set_cons_zero,List.set_cons_succ,aT,aU]
                rfl
               refine dI (i:=5) (N:=some 99) (v:=?_) (a':=?_) #[true,true,true,true,true,true,true,false,true,false,false,false,false,false,false,false,false,false,false,false,false,false,false,false,false,false,false,false,false] rfl rfl (bU HT_.out HW_.out (by kernel_rfl)) (fun _ _ _ h=>h) (Or.inl ⟨by rfl,?_⟩) hHeld ?_ ?_
               rotate_left
               ·rintro w' ⟨s0,s1,s2,s3,s4,s5,s6,s7,s8,s9,s10,s11,s12,s13,CO,s15,s16,CP,CQ,CS,s20,CU,CV,CW,s24,DK,D6,D7,D8,D9,Ea,Eb,Ec,Ed,Ee,Ef,Eh,Ei,Ej,El⟩
                go_simp
                with_reducible rfl
               rotate_left
               ·simp only [Act.put,List.setIfInBounds_toArray,List.set_cons_zero,List.set_cons_succ,aT,aU]
                rfl
               refine dI (i:=7) (N:=some 101) (v:=?_) (a':=?_) #[true,true,true,true,true,true,true,true,true,false,false,false,false,false,false,false,false,false,false,false,false,false,false,false,false,false,false,false,false] rfl rfl (bU HT_.out HW_.out (by kernel_rfl)) (fun _ _ _ h=>h) (Or.inl ⟨by rfl,?_⟩) hHeld ?_ ?_
               rotate_left
               ·rintro w' ⟨s0,s1,s2,s3,s4,s5,s6,s7,s8,s9,s10,s11,s12,s13,CO,s15,s16,CP,CQ,CS,s20,CU,CV,CW,s24,DK,D6,D7,D8,D9,Ea,Eb,Ec,Ed,Ee,Ef,Eh,Ei,Ej,El⟩
                go_simp
                with_reducible rfl
               rotate_left
               ·simp only [Act.put,List.setIfInBounds_toArray,List.set_cons_zero,List.set_cons_succ,aT,aU]
                rfl
               refine bE (i:=9) (N:=some 103) (v:=?_) (a':=?_) #[true,true,true,true,true,true,true,true,true,true,false,false,false,false,false,false,false,false,false,false,false,false,false,false,false,false,false,false,false] rfl rfl (bg HT_.out (by kernel_rfl)) (fun _ _ _ h=>h) (Or.inl ⟨by rfl,?_⟩) ?_ ?_
               rotate_left
               ·intro w'
                go_simp
                with_reducible rfl
               rotate_left
               ·simp only [Act.put,List.setIfInBounds_toArray,List.set_cons_zero,List.set_cons_succ,aT,aU]
                rfl
               refine bE (i:=10) (N:=some 104) (v:=?_) (a':=?_) #[true,true,true,true,true,true,true,true,true,true,true,false,false,false,false,false,false,false,false,false,false,false,false,false,false,false,false,false,false] rfl rfl (bg HT_.out (by kernel_rfl)) (fun _ _ _ h=>h) (Or.inl ⟨by rfl,?_⟩) ?_ ?_
               rotate_left
               ·intro w'
                go_simp
                with_reducible rfl
               rotate_left
               ·simp only [Act.put,List.setIfInBounds_toArray,List.set_cons_zero,List.set_cons_succ,aT,aU]
                rfl
               refine dI (i:=11) (N:=some 105) (v:=?_) (a':=?_) #[true,true,true,true,true,true,true,true,true,true,true,true,false,false,false,false,false,false,false,false,false,false,false,false,false,false,false,false,false] rfl rfl (bU HT_.out HW_.out (by kernel_rfl)) (fun _ _ _ h=>h) (Or.inl ⟨by rfl,?_⟩) hHeld ?_ ?_
               rotate_left
               ·rintro w' ⟨s0,s1,s2,s3,s4,s5,s6,s7,s8,s9,s10,s11,s12,s13,CO,s15,s16,CP,CQ,CS,s20,CU,CV,CW,s24,DK,D6,D7,D8,D9,Ea,Eb,Ec,Ed,Ee,Ef,Eh,Ei,Ej,El⟩
                go_simp
                with_reducible rfl
               rotate_left
               ·simp only [Act.put,List.setIfInBounds_toArray,List.set_cons_zero,List.set_cons_succ,aT,aU]
                rfl
               refine bE (i:=12) (N:=some 106) (v:=?_) (a':=?_) #[true,true,true,true,true,true,true,true,true,true,true,true,true,false,false,false,false,false,false,false,false,false,false,false,false,false,false,false,false] rfl rfl (bg HT_.out (by kernel_rfl)) (fun _ _ _ h=>h) (Or.inl ⟨by rfl,?_⟩) ?_ ?_
               rotate_left
               ·intro w'
                go_simp
                with_reducible rfl
               rotate_left
               ·simp only [Act.put,List.setIfInBounds_toArray,List.set_cons_zero,List.set_cons_succ,aT,aU]
                rfl
               refine bE (i:=13) (N:=some 107) (v:=?_) (a':=?_) #[true,true,true,true,true,true,true,true,true,true,true,true,true,true,false,false,false,false,false,false,false,false,false,false,false,false,false,false,false] rfl rfl (bg HT_.out (by kernel_rfl)) (fun _ _ _ h=>h) (Or.inl ⟨by rfl,?_⟩) ?_ ?_
               rotate_left
               ·intro w'
                go_simp
                with_reducible rfl
               rotate_left
               ·simp only [Act.put,List.setIfInBounds_toArray,List.set_cons_zero,List.set_cons_succ,aT,aU]
                rfl
               refine bE (i:=14) (N:=some 108) (v:=?_) (a':=?_) #[true,true,true,true,true,true,true,true,true,true,true,true,true,true,true,false,false,false,false,false,false,false,false,false,false,false,false,false,false] rfl rfl (bg HT_.out (by kernel_rfl)) (fun _ _ _ h=>h) (Or.inl ⟨by rfl,?_⟩) ?_ ?_
               rotate_left
               ·intro w'
                go_simp
                with_reducible rfl
               rotate_left
               ·simp only [Act.put,List.setIfInBounds_toArray,List.set_cons_zero,List.set_cons_succ,aT,aU]
                rfl
               refine bE (i:=16) (N:=some 110) (v:=?_) (a':=?_) #[true,true,true,true,true,true,true,true,true,true,true,true,true,true,true,false,true,false,false,false,false,false,false,false,false,false,false,false,false] rfl rfl (bg HT_.out (by kernel_rfl)) (fun _ _ _ h=>h) (Or.inl ⟨by rfl,?_⟩) ?_ ?_
               rotate_left
               ·intro w'
                go_simp
                with_reducible rfl
               rotate_left
               ·simp only [Act.put,List.setIfInBounds_toArray,List.set_cons_zero,List.set_cons_succ,aT,aU]
                rfl
               refine bE (i:=20) (N:=some 114) (v:=?_) (a':=?_) #[true,true,true,true,true,true,true,true,true,true,true,true,true,true,true,false,true,false,false,false,true,false,false,false,false,false,false,false,false] rfl rfl (bg HT_.out (by kernel_rfl)) (fun _ _ _ h=>h) (Or.inl ⟨by rfl,?_⟩) ?_ ?_
               rotate_left
               ·intro w'
                go_simp
                with_reducible rfl
               rotate_left
               ·simp only [Act.put,List.setIfInBounds_toArray,List.set_cons_zero,List.set_cons_succ,aT,aU]
                rfl
               refine bE (i:=22) (N:=some 116) (v:=?_) (a':=?_) #[true,true,true,true,true,true,true,true,true,true,true,true,true,true,true,false,true,false,false,false,true,false,true,false,false,false,false,false,false] rfl rfl (bg HT_.out (by kernel_rfl)) (fun _ _ _ h=>h) (Or.inl ⟨by rfl,?_⟩) ?_ ?_
               rotate_left
               ·intro w'
                go_simp
                with_reducible rfl
               rotate_left
               ·simp only [Act.put,List.setIfInBounds_toArray,List.set_cons_zero,List.set_cons_succ,aT,aU]
                rfl
               refine dI (i:=15) (N:=some 109) (v:=?_) (a':=?_) #[true,true,true,true,true,true,true,true,true,true,true,true,true,true,true,true,true,false,false,false,true,false,true,false,false,false,false,false,false] rfl rfl (bU HT_.out HW_.out (by kernel_rfl)) (fun _ _ _ h=>h) (Or.inl ⟨by rfl,?_⟩) hHeld ?_ ?_
               rotate_left
               ·rintro w' ⟨s0,s1,s2,s3,s4,s5,s6,s7,s8,s9,s10,s11,s12,s13,CO,s15,s16,CP,CQ,CS,s20,CU,CV,CW,s24,DK,D6,D7,D8,D9,Ea,Eb,Ec,Ed,Ee,Ef,Eh,Ei,Ej,El⟩
                go_simp
                with_reducible rfl
               rotate_left
               ·simp only [Act.put,List.setIfInBounds_toArray,List.set_cons_zero,List.set_cons_succ,aT,aU]
                rfl
               refine bE (i:=17) (N:=some 111) (v:=?_) (a':=?_) #[true,true,true,true,true,true,true,true,true,true,true,true,true,true,true,true,true,true,false,false,true,false,true,false,false,false,false,false,false] rfl rfl (bg HT_.out (by kernel_rfl)) (fun _ _ _ h=>h) (Or.inl ⟨by rfl,?_⟩) ?_ ?_
               rotate_left
               ·intro w'
                go_simp
                with_reducible rfl
               rotate_left
               ·simp only [Act.put,List.setIfInBounds_toArray,List.set_cons_zero,List.set_cons_succ,aT,aU]
                rfl
               refine bE (i:=18) (N:=some 112) (v:=?_) (a':=?_) #[true,true,true,true,true,true,true,true,true,true,true,true,true,true,true,true,true,true,true,false,true,false,true,false,false,false,false,false,false] rfl rfl (bg HT_.out (by kernel_rfl)) (fun _ _ _ h=>h) (Or.inl ⟨by rfl,?_⟩) ?_ ?_
               rotate_left
               ·intro w'
                go_simp
                with_reducible rfl
               rotate_left
               ·simp only [Act.put,List.setIfInBounds_toArray,List.set_cons_zero,List.set_cons_succ,aT,aU]
                rfl
               refine dI (i:=19) (N:=some 113) (v:=?_) (a':=?_) #[true,true,true,true,true,true,true,true,true,true,true,true,true,true,true,true,true,true,true,true,true,false,true,false,false,false,false,false,false] rfl rfl (bU HT_.out HW_.out (by kernel_rfl)) (fun _ _ _ h=>h) (Or.inl ⟨by rfl,?_⟩) hHeld ?_ ?_
               rotate_left
               ·rintro w' ⟨s0,s1,s2,s3,s4,s5,s6,s7,s8,s9,s10,s11,s12,s13,CO,s15,s16,CP,CQ,CS,s20,CU,CV,CW,s24,DK,D6,D7,D8,D9,Ea,Eb,Ec,Ed,Ee,Ef,Eh,Ei,Ej,El⟩
                go_simp
                with_reducible rfl
               rotate_left
               ·simp only [Act.put,List.setIfInBounds_toArray,List.set_cons_zero,List.set_cons_succ,aT,aU]
                rfl
               refine dI (i:=21) (N:=some 115) (v:=?_) (a':=?_) #[true,true,true,true,true,true,true,true,true,true,true,true,true,true,true,true,true,true,true,true,true,true,true,false,false,false,false,false,false] rfl rfl (bU HT_.out HW_.out (by kernel_rfl)) (fun _ _ _ h=>h) (Or.inl ⟨by rfl,?_⟩) hHeld ?_ ?_
               rotate_left
               ·rintro w' ⟨s0,s1,s2,s3,s4,s5,s6,s7,s8,s9,s10,s11,s12,s13,CO,s15,s16,CP,CQ,CS,s20,CU,CV,CW,s24,DK,D6,D7,D8,D9,Ea,Eb,Ec,Ed,Ee,Ef,Eh,Ei,Ej,El⟩
                go_simp
                with_reducible rfl
               rotate_left
               ·simp only [Act.put,List.setIfInBounds_toArray,List.set_cons_zero,List.set_cons_succ,aT,aU]
                rfl
               refine bE (i:=23) (N:=some 117) (v:=?_) (a':=?_) #[true,true,true,true,true,true,true,true,true,true,true,true,true,true,true,true,true,true,true,true,true,true,true,true,false,false,false,false,false] rfl rfl (bg HT_.out (by kernel_rfl)) (fun _ _ _ h=>h) (Or.inl ⟨by rfl,?_⟩) ?_ ?_
               rotate_left
               ·intro w'
                go_simp
                with_reducible rfl
               rotate_left
               ·simp only [Act.put,List.setIfInBounds_toArray,List.set_cons_zero,List.set_cons_succ,aT,aU]
                rfl
               refine bE (i:=24) (N:=some 118) (v:=?_) (a':=?_) #[true,true,true,true,true,true,true,true,true,true,true,true,true,true,true,true,true,true,true,true,true,true,true,true,true,false,false,false,false] rfl rfl (bg HT_.out (by kernel_rfl)) (fun _ _ _ h=>h) (Or.inl ⟨by rfl,?_⟩) ?_ ?_
               rotate_left
               ·intro w'
                go_simp
                with_reducible rfl
               rotate_left
               ·simp only [Act.put,List.setIfInBounds_toArray,List.set_cons_zero,List.set_cons_succ,aT,aU]
                rfl
               refine dI (i:=25) (N:=some 119) (v:=?_) (a':=?_) #[true,true,true,true,true,true,true,true,true,true,true,true,true,true,true,true,true,true,true,true,true,true,true,true,true,true,false,false,false] rfl rfl (bU HT_.out HW_.out (by kernel_rfl)) (fun _ _ _ h=>h) (Or.inl ⟨by rfl,?_⟩) hHeld ?_ ?_
               rotate_left
               ·rintro w' ⟨s0,s1,s2,s3,s4,s5,s6,s7,s8,s9,s10,s11,s12,s13,CO,s15,s16,CP,CQ,CS,s20,CU,CV,CW,s24,DK,D6,D7,D8,D9,Ea,Eb,Ec,Ed,Ee,Ef,Eh,Ei,Ej,El⟩
                go_simp
                with_reducible rfl
               rotate_left
               ·simp only [Act.put,List.setIfInBounds_toArray,List.set_cons_zero,List.set_cons_succ,aT,aU]
                rfl
               refine fM (i:=26) (N:=some 120) #[true,true,true,true,true,true,true,true,true,true,true,true,true,true,true,true,true,true,true,true,true,true,true,true,true,true,true,false,false] rfl rfl (dx HT_.out (by kernel_rfl)) (by decide) (fun K hK=>?_)
               refine gq Tryd.func13 (by kernel_rfl) rfl #[.agg #[.int .i64 ((aV xY xV).f1.f0),.bool ((aV xY xV).f1.f1),.int .i64 ((aV xY xV).f1.f2),.string ((aV xY xV).f1.f3),.slice BI ((aV xY xV).f1.f4).length BJ,.slice BK ((aV xY xV).f1.f5).length BL],.agg #[.int .i64 ((aV xZ xV).f1.f0),.bool ((aV xZ xV).f1.f1),.int .i64 ((aV xZ xV).f1.f2),.string ((aV xZ xV).f1.f3),.slice BM ((aV xZ xV).f1.f4).length BN,.slice BO ((aV xZ xV).f1.f5).length BP]] (by rfl) rfl rfl (by (try simp only [List.map_toArray,List.map_cons,List.map_nil]);first|done|rfl|(simp only [List.length_drop,List.length_take];rfl)) ?_
               with_reducible refine (ih k3 (by have:=HJ2.out;have:=EM.out;have:=QO.out;omega) ((aV xY xV).f1.f0) ((aV xY xV).f1.f1) ((aV xY xV).f1.f2) ((aV xY xV).f1.f3) _ _ ((aV xY xV).f1.f4) _ _ ((aV xY xV).f1.f5) ((aV xZ xV).f1.f0) ((aV xZ xV).f1.f1) ((aV xZ xV).f1.f2) ((aV xZ xV).f1.f3) _ _ ((aV xZ xV).f1.f4) _ _ ((aV xZ xV).f1.f5) false _ ?Df ?Dh ?Di ?Dj ?Dk ?Dl ?Dm ?Dn SB.out).mono ?_
               (case Df=>repeat (first|exact (Kd.bQ Cx.out HB.out)|(with_reducible refine Kd.bW ?_ _)|(with_reducible refine Kd.bX ?_ _)|(with_reducible refine Kd.dh ?_)))
               (case Dh=>exact DC.out)
               (case Di=>repeat (first|exact (Kd.bQ Cy.out HB.out)|(with_reducible refine Kd.bW ?_ _)|(with_reducible refine Kd.bX ?_ _)|(with_reducible refine Kd.dh ?_)))
               (case Dj=>exact DF.out)
               (case Dk=>repeat (first|exact (Kd.bQ CJ.out HB.out)|(with_reducible refine Kd.bW ?_ _)|(with_reducible refine Kd.bX ?_ _)|(with_reducible refine Kd.dh ?_)))
               (case Dl=>exact DI.out)
               (case Dm=>repeat (first|exact (Kd.bQ CK.out HB.out)|(with_reducible refine Kd.bW ?_ _)|(with_reducible refine Kd.bX ?_ _)|(with_reducible refine Kd.dh ?_)))
               (case Dn=>exact DJ.out)
               rintro e Tf ⟨rfl,hb⟩
               refine ⟨_,rfl,?_⟩
               have BQ:=Aside0.mk (aI (g:=xW) (o:=.cells #[.int .i64 yc,.bool yA,.int .i64 yw,.string yx,.slice zi yh.length yP,.slice (some yt) xY.length yQ] 33 (0,0)) (bk_ xS.out) hb)
               have BR:=Aside0.mk (aI (g:=xX) (o:=.cells #[.int .i64 yG,.bool yF,.int .i64 yD,.string yE,.slice zP yj.length zw,.slice (some yu) xZ.length zx] 33 (0,0)) (bk_ xU.out) hb)
               have BS:=Aside0.mk (aK (by repeat (first|(with_reducible first|exact HB.out|apply av|apply ak|apply au|refine aG ?_ yH.out|refine aG ?_ yO.out)|exact HB.out)) hb)
               clear xS
               clear xU
               clear HB
               have xS:=BQ
               have xU:=BR
               have HB:=BS
               clear BQ BR BS
               (try clear hb)
               (try clear hb2)
               (try clear hk)
               (try clear hi)
               refine hK.out _ _ ⟨(ah xS.out 0).trans rfl,(ah xS.out 1).trans rfl,(ah xS.out 2).trans rfl,(ah xS.out 3).trans rfl,(ah xS.out 4).trans rfl,(ah xS.out 5).trans rfl,(ah xU.out 0).trans rfl,(ah xU.out 1).trans rfl,(ah xU.out 2).trans rfl,(ah xU.out 3).trans rfl,(ah xU.out 4).trans rfl,(ah xU.out 5).trans rfl,((HB.out.cell (World.block_lt_of_cell? w _ zG)).trans zG),((HB.out.cell (World.block_lt_of_cell? w _ zF)).trans zF),((HB.out.cell (World.block_lt_of_cell? w _ zD)).trans zD),((HB.out.cell (World.block_lt_of_cell? w _ zC)).trans zC),((HB.out.cell (World.block_lt_of_cell? w _ zB)).trans zB),((HB.out.cell (World.block_lt_of_cell? w _ zA)).trans zA),((HB.out.cell (World.block_lt_of_cell? w _ zy)).trans zy),((HB.out.cell (World.block_lt_of_cell? w _ zN)).trans zN),((HB.out.cell (World.block_lt_of_cell? w _ zM)).trans zM),((HB.out.cell (World.block_lt_of_cell? w _ zL)).trans zL),((HB.out.cell (World.block_lt_of_cell? w _ zK)).trans zK),((HB.out.cell (World.block_lt_of_cell? w _ zJ)).trans zJ),((HB.out.cell (World.block_lt_of_cell? w _ zI)).trans zI),((HB.out.cell (World.block_lt_of_cell? w _ zH)).trans zH),((HB.out.cell (World.block_lt_of_cell? w _ Bl)).trans Bl),((HB.out.cell (World.block_lt_of_cell? w _ Bj)).trans Bj),((HB.out.cell (World.block_lt_of_cell? w _ Bh)).trans Bh),((HB.out.cell (World.block_lt_of_cell? w _ Bg)).trans Bg),((HB.out.cell (World.block_lt_of_cell? w _ Bf)).trans Bf),((HB.out.cell (World.block_lt_of_cell? w _ Bd)).trans Bd),((HB.out.cell (World.block_lt_of_cell? w _ Bc)).trans Bc),((HB.out.cell (World.block_lt_of_cell? w _ Bu)).trans Bu),((HB.out.cell (World.block_lt_of_cell? w _ Bt)).trans Bt),((HB.out.cell (World.block_lt_of_cell? w _ Br)).trans Br),((HB.out.cell (World.block_lt_of_cell? w _ Bq)).trans Bq),((HB.out.cell (World.block_lt_of_cell? w _ Bp)).trans Bp),((HB.out.cell (World.block_lt_of_cell? w _ Bo)).trans Bo),((HB.out.cell (World.block_lt_of_cell? w _ Bn)).trans Bn)⟩ (fun hHeld=>?_)
               clear hK K
               refine cB (a':=?_) ?_ ?_
               rotate_left
               ·show Act.put _ (some 120) _ = _
                simp only [Act.put,List.setIfInBounds_toArray,List.set_cons_zero,List.set_cons_succ,aT,aU]
                rfl
               refine bE (i:=27) (N:=some 121) (v:=?_) (a':=?_) #[true,true,true,true,true,true,true,true,true,true,true,true,true,true,true,true,true,true,true,true,true,true,true,true,true,true,true,true,false] rfl rfl (bg HT_.out (by kernel_rfl)) (fun _ _ _ h=>h) (Or.inl ⟨by rfl,?_⟩) ?_ ?_
               rotate_left
               ·intro w'
                go_simp
                with_reducible rfl
               rotate_left
               ·simp only [Act.put,List.setIfInBounds_toArray,List.set_cons_zero,List.set_cons_succ,aT,aU]
                rfl
               refine bE (i:=28) (N:=some 122) (v:=?_) (a':=?_) #[true,true,true,true,true,true,true,true,true,true,true,true,true,true,true,true,true,true,true,true,true,true,true,true,true,true,true,true,true] rfl rfl (bg HT_.out (by kernel_rfl)) (fun _ _ _ h=>h) (Or.inl ⟨by rfl,?_⟩) ?_ ?_
               rotate_left
               ·intro w'
                go_simp
                with_reducible rfl
               rotate_left
               ·simp only [Act.put,List.setIfInBounds_toArray,List.set_cons_zero,List.set_cons_succ,aT,aU]
                rfl
               refine jh (gL HT_.out (by kernel_rfl)) ?_
               try go_wp2
               go_ret
               exact ⟨by first|rfl|(simp [aX,aY] <;> rfl)|(simp [*,aX,aY] <;> rfl),by repeat (first|(with_reducible first|exact HB.out|apply av|apply ak|apply au|refine aG ?_ yH.out|refine aG ?_ yO.out)|exact HB.out)⟩
             ·rw [if_neg EZ] at H
              have c88b0 : (((aV xY xV).f0).toList == ((aV xZ xV).f0).toList) = false:=beq_eq_false_iff_ne.mpr EZ
              have c88b1 : (((aV xY xV).f0).toList != ((aV xZ xV).f0).toList) = true:=bne_iff_ne.mpr EZ
              obtain rfl:=Option.some.inj H
              have SH:=yB.out
              have SI:=yC.out
              have FC : wr.cell? ⟨xW,0,none⟩ = some (.int .i64 yc):=(ah xS.out 0).trans rfl
              have FD : wr.cell? ⟨xW,1,none⟩ = some (.bool yA):=(ah xS.out 1).trans rfl
              have FE : wr.cell? ⟨xW,2,none⟩ = some (.int .i64 yw):=(ah xS.out 2).trans rfl
              have FH : wr.cell? ⟨xW,3,none⟩ = some (.string yx):=(ah xS.out 3).trans rfl
              have FI : wr.cell? ⟨xW,4,none⟩ = some (.slice zi yh.length yP):=(ah xS.out 4).trans rfl
              have FJ : wr.cell? ⟨xW,5,none⟩ = some (.slice zm xY.length yQ):=(ah xS.out 5).trans rfl
              have FL:=aj xS.out 0
              have FM:=aj xS.out 1
              have FN:=aj xS.out 2
              have FP:=aj xS.out 3
              have FQ:=aj xS.out 4
              have FR:=aj xS.out 5
              try go_wp2
              have BQ:=Aside0.mk (aD xS.out)
              have BR:=Aside0.mk (aD xU.out)
              have BS:=Aside0.mk (au HB.out)
              clear xS
              clear xU
              clear HB
              have xS:=BQ
              have xU:=BR
              have HB:=BS
              clear BQ BR BS
              have Dp : 0 ≤ (xV : Int):=of_decide_eq_true (by first|(with_reducible assumption)|assumption)
              have Dq : xV < (xY.length : Int):=of_decide_eq_true (by first|(with_reducible assumption)|assumption)
              obtain ⟨yt,BI,BJ,BK,BL,EH,yT,yU,yV,yX,yY,yI,yJ,Bv,Bw,Bz,BA⟩:=iG DL.out xV Dp Dq
              have zy:=yJ
              have zA:=yI
              have zB:=yY
              have zC:=yX
              have zD:=yV
              have zF:=yU
              have zG:=yT
              cases EH
              replace yT:=(HB.out.cell (World.block_lt_of_cell? w _ yT)).trans yT
              replace yU:=(HB.out.cell (World.block_lt_of_cell? w _ yU)).trans yU
              replace yV:=(HB.out.cell (World.block_lt_of_cell? w _ yV)).trans yV
              replace yX:=(HB.out.cell (World.block_lt_of_cell? w _ yX)).trans yX
              replace yY:=(HB.out.cell (World.block_lt_of_cell? w _ yY)).trans yY
              replace yI:=(HB.out.cell (World.block_lt_of_cell? w _ yI)).trans yI
              replace yJ:=(HB.out.cell (World.block_lt_of_cell? w _ yJ)).trans yJ
              have Cn:=Aside0.mk Bw
              have En:=Aside0.mk Bv
              clear Bw Bv
              have Co:=Aside0.mk BA
              have Eo:=Aside0.mk Bz
              clear BA Bz
              replace Dp:=eq_true Dp
              replace Dq:=eq_true Dq
              have Dr : 0 ≤ (xV : Int):=of_decide_eq_true (by first|(with_reducible assumption)|assumption)
              have Dt : xV < (xZ.length : Int):=of_decide_eq_true (by first|(with_reducible assumption)|assumption)
              obtain ⟨yu,BM,BN,BO,BP,e197,yZ,za,ze,zf,zh,yK,yL,BD,BF,BG,BH⟩:=iG DN.out xV Dr Dt
              have zH:=yL
              have zI:=yK
              have zJ:=zh
              have zK:=zf
              have zL:=ze
              have zM:=za
              have zN:=yZ
              cases e197
              replace yZ:=(HB.out.cell (World.block_lt_of_cell? w _ yZ)).trans yZ
              replace za:=(HB.out.cell (World.block_lt_of_cell? w _ za)).trans za
              replace ze:=(HB.out.cell (World.block_lt_of_cell? w _ ze)).trans ze
              replace zf:=(HB.out.cell (World.block_lt_of_cell? w _ zf)).trans zf
              replace zh:=(HB.out.cell (World.block_lt_of_cell? w _ zh)).trans zh
              replace yK:=(HB.out.cell (World.block_lt_of_cell? w _ yK)).trans yK
              replace yL:=(HB.out.cell (World.block_lt_of_cell? w _ yL)).trans yL
              have Cq:=Aside0.mk BF
              have Ep:=Aside0.mk BD
              clear BF BD
              have Cr:=Aside0.mk BH
              have Er:=Aside0.mk BG
              clear BH BG
              replace Dr:=eq_true Dr
              replace Dt:=eq_true Dt
              refine iE (n:=29) (S:=fun w'=>w'.cell? ⟨xW,0,none⟩ = some (.int .i64 yc) ∧ w'.cell? ⟨xW,1,none⟩ = some (.bool yA) ∧ w'.cell? ⟨xW,2,none⟩ = some (.int .i64 yw) ∧ w'.cell? ⟨xW,3,none⟩ = some (.string yx) ∧ w'.cell? ⟨xW,4,none⟩ = some (.slice zi yh.length yP) ∧ w'.cell? ⟨xW,5,none⟩ = some (.slice (some yt) xY.length yQ) ∧ w'.cell? ⟨xX,0,none⟩ = some (.int .i64 yG) ∧ w'.cell? ⟨xX,1,none⟩ = some (.bool yF) ∧ w'.cell? ⟨xX,2,none⟩ = some (.int .i64 yD) ∧ w'.cell? ⟨xX,3,none⟩ = some (.string yE) ∧ w'.cell? ⟨xX,4,none⟩ = some (.slice zP yj.length zw) ∧ w'.cell? ⟨xX,5,none⟩ = some (.slice (some yu) xZ.length zx) ∧ w'.cell? (yt.add ((xV).toNat * 7)) = some (.string ((aV xY xV).f0)) ∧ w'.cell? ⟨(yt.add ((xV).toNat * 7)).block,(yt.add ((xV).toNat * 7)).off + 1,none⟩ = some (.int .i64 ((aV xY xV).f1.f0)) ∧ w'.cell? ⟨(yt.add ((xV).toNat * 7)).block,(yt.add ((xV).toNat * 7)).off + 2,none⟩ = some (.bool ((aV xY xV).f1.f1)) ∧ w'.cell? ⟨(yt.add ((xV).toNat * 7)).block,(yt.add ((xV).toNat * 7)).off + 3,none⟩ = some (.int .i64 ((aV xY xV).f1.f2)) ∧ w'.cell? ⟨(yt.add ((xV).toNat * 7)).block,(yt.add ((xV).toNat * 7)).off + 4,none⟩ = some (.string ((aV xY xV).f1.f3)) ∧ w'.cell? ⟨(yt.add ((xV).toNat * 7)).block,(yt.add ((xV).toNat * 7)).off + 5,none⟩ = some (.slice BI ((aV xY xV).f1.f4).length BJ) ∧ w'.cell? ⟨(yt.add ((xV).toNat * 7)).block,(yt.add ((xV).toNat * 7)).off + 6,none⟩ = some (.slice BK ((aV xY xV).f1.f5).length BL) ∧ w'.cell? (yu.add ((xV).toNat * 7)) = some (.string ((aV xZ xV).f0)) ∧ w'.cell? ⟨(yu.add ((xV).toNat * 7)).block,(yu.add ((xV).toNat * 7)).off + 1,none⟩ = some (.int .i64 ((aV xZ xV).f1.f0)) ∧ w'.cell? ⟨(yu.add ((xV).toNat * 7)).block,(yu.add ((xV).toNat * 7)).off + 2,none⟩ = some (.bool ((aV xZ xV).f1.f1)) ∧ w'.cell? ⟨(yu.add ((xV).toNat * 7)).block,(yu.add ((xV).toNat * 7)).off + 3,none⟩ = some (.int .i64 ((aV xZ xV).f1.f2)) ∧ w'.cell? ⟨(yu.add ((xV).toNat * 7)).block,(yu.add ((xV).toNat * 7)).off + 4,none⟩ = some (.string ((aV xZ xV).f1.f3)) ∧ w'.cell? ⟨(yu.add ((xV).toNat * 7)).block,(yu.add ((xV).toNat * 7)).off + 5,none⟩ = some (.slice BM ((aV xZ xV).f1.f4).length BN) ∧ w'.cell? ⟨(yu.add ((xV).toNat * 7)).block,(yu.add ((xV).toNat * 7)).off + 6,none⟩ = some (.slice BO ((aV xZ xV).f1.f5).length BP)) (ds:=[]) #[false,false,false,false,false,false,false,false,false,false,false,false,false,false,false,false,false,false,false,false,false,false,false,false,false,false,false,false,false] (by kernel_rfl) rfl rfl ⟨(ah xS.out 0).trans rfl,(ah xS.out 1).trans rfl,(ah xS.out 2).trans rfl,(ah xS.out 3).trans rfl,(ah xS.out 4).trans rfl,(ah xS.out 5).trans rfl,(ah xU.out 0).trans rfl,(ah xU.out 1).trans rfl,(ah xU.out 2).trans rfl,(ah xU.out 3).trans rfl,(ah xU.out 4).trans rfl,(ah xU.out 5).trans rfl,((HB.out.cell (World.block_lt_of_cell? w _ zG)).trans zG),((HB.out.cell (World.block_lt_of_cell? w _ zF)).trans zF),((HB.out.cell (World.block_lt_of_cell? w _ zD)).trans zD),((HB.out.cell (World.block_lt_of_cell? w _ zC)).trans zC),((HB.out.cell (World.block_lt_of_cell? w _ zB)).trans zB),((HB.out.cell (World.block_lt_of_cell? w _ zA)).trans zA),((HB.out.cell (World.block_lt_of_cell? w _ zy)).trans zy),((HB.out.cell (World.block_lt_of_cell? w _ zN)).trans zN),((HB.out.cell (World.block_lt_of_cell? w _ zM)).trans zM),((HB.out.cell (World.block_lt_of_cell? w _ zL)).trans zL),((HB.out.cell (World.block_lt_of_cell? w _ zK)).trans zK),((HB.out.cell (World.block_lt_of_cell? w _ zJ)).trans zJ),((HB.out.cell (World.block_lt_of_cell? w _ zI)).trans zI),((HB.out.cell (World.block_lt_of_cell? w _ zH)).trans zH)⟩ (fun hHeld=>?_);refine fB aJ.pK aJ.nA (fun HT_ HW_=>?_)
              generalize wr.drew = SS at xS xU HB Cn Co Cq Cr yT yU yV yX yY yI yJ yZ za ze zf zh yK yL hHeld ⊢
              refine bE (i:=0) (N:=some 94) (v:=?_) (a':=?_) #[true,false,false,false,false,false,false,false,false,false,false,false,false,false,false,false,false,false,false,false,false,false,false,false,false,false,false,false,false] rfl rfl (bg HT_.out (by kernel_rfl)) (fun _ _ _ h=>h) (Or.inl ⟨by rfl,?_⟩) ?_ ?_
              rotate_left
              ·intro w'
               go_simp
               with_reducible rfl
              rotate_left
              ·simp only [Act.put,List.setIfInBounds_toArray,List.set_cons_zero,List.set_cons_succ,aT,aU]
               rfl
              refine bE (i:=2) (N:=some 96) (v:=?_) (a':=?_) #[true,false,true,false,false,false,false,false,false,false,false,false,false,false,false,false,false,false,false,false,false,false,false,false,false,false,false,false,false] rfl rfl (bg HT_.out (by kernel_rfl)) (fun _ _ _ h=>h) (Or.inl ⟨by rfl,?_⟩) ?_ ?_
              rotate_left
              ·intro w'
               go_simp
               with_reducible rfl
              rotate_left
              ·simp only [Act.put,List.setIfInBounds_toArray,List.set_cons_zero,List.set_cons_succ,aT,aU]
               rfl
              refine bE (i:=6) (N:=some 100) (v:=?_) (a':=?_) #[true,false,true,false,false,false,true,false,false,false,false,false,false,false,false,false,false,false,false,false,false,false,false,false,false,false,false,false,false] rfl rfl (bg HT_.out (by kernel_rfl)) (fun _ _ _ h=>h) (Or.inl ⟨by rfl,?_⟩) ?_ ?_
              rotate_left
              ·intro w'
               go_simp
               with_reducible rfl
              rotate_left
              ·simp only [Act.put,List.setIfInBounds_toArray,List.set_cons_zero,List.set_cons_succ,aT,aU]
               rfl
              refine bE (i:=8) (N:=some 102) (v:=?_) (a':=?_) #[true,false,true,false,false,false,true,false,true,false,false,false,false,false,false,false,false,false,false,false,false,false,false,false,false,false,false,false,false] rfl rfl (bg HT_.out (by kernel_rfl)) (fun _ _ _ h=>h) (Or.inl ⟨by rfl,?_⟩) ?_ ?_
              rotate_left
              ·intro w'
               go_simp
               with_reducible rfl
              rotate_left
              ·simp only [Act.put,List.setIfInBounds_toArray,List.set_cons_zero,List.set_cons_succ,aT,aU]
               rfl
              refine dI (i:=1) (N:=some 95) (v:=?_) (a':=?_) #[true,true,true,false,false,false,true,false,true,false,false,false,false,false,false,false,false,false,false,false,false,false,false,false,false,false,false,false,false] rfl rfl (bU HT_.out HW_.out (by kernel_rfl)) (fun _ _ _ h=>h) (Or.inl ⟨by rfl,?_⟩) hHeld ?_ ?_
              rotate_left
              ·rintro w' ⟨s0,s1,s2,s3,s4,s5,s6,s7,s8,s9,s10,s11,s12,s13,CO,s15,s16,CP,CQ,CS,s20,CU,CV,CW,s24,DK⟩
               go_simp
               with_reducible rfl
              rotate_left
              ·simp only [Act.put,List.setIfInBounds_toArray,List.set_cons_zero,List.set_cons_succ,aT,aU]
               rfl
              refine bE (i:=3) (N:=some 97) (v:=?_) (a':=?_) #[true,true,true,true,false,false,true,false,true,false,false,false,false,false,false,false,false,false,false,false,false,false,false,false,false,false,false,false,false] rfl rfl (bg HT_.out (by kernel_rfl)) (fun _ _ _ h=>h) (Or.inl ⟨by rfl,?_⟩) ?_ ?_
              rotate_left
              ·intro w'
               go_simp
               with_reducible rfl
              rotate_left
              ·simp only [Act.put,List.setIfInBounds_toArray,List.set_cons_zero,List.set_cons_succ,aT,aU]
               rfl
              refine bE (i:=4) (N:=some 98) (v:=?_) (a':=?_) #[true,true,true,true,true,false,true,false,true,false,false,false,false,false,false,false,false,false,false,false,false,false,false,false,false,false,false,false,false] rfl rfl (bg HT_.out (by kernel_rfl)) (fun _ _ _ h=>h) (Or.inl ⟨by rfl,?_⟩) ?_ ?_
              rotate_left
              ·intro w'
               go_simp
               with_reducible rfl
              rotate_left
              ·simp only [Act.put,List.setIfInBounds_toArray,List.set_cons_zero,List.set_cons_succ,aT,aU]
               rfl
              refine dI (i:=5) (N:=some 99) (v:=?_) (a':=?_) #[true,true,true,true,true,true,true,false,true,false,false,false,false,false,false,false,false,false,false,false,false,false,false,false,false,false,false,false,false] rfl rfl (bU HT_.out HW_.out (by kernel_rfl)) (fun _ _ _ h=>h) (Or.inl ⟨by rfl,?_⟩) hHeld ?_ ?_
              rotate_left
              ·rintro w' ⟨s0,s1,s2,s3,s4,s5,s6,s7,s8,s9,s10,s11,s12,s13,CO,s15,s16,CP,CQ,CS,s20,CU,CV,CW,s24,DK⟩
               go_simp
               with_reducible rfl
              rotate_left
              ·simp only [Act.put,List.setIfInBounds_toArray,List.set_cons_zero,List.set_cons_succ,aT,aU]
               rfl
              refine dI (i:=7) (N:=some 101) (v:=?_) (a':=?_) #[true,true,true,true,true,true,true,true,true,false,false,false,false,false,false,false,false,false,false,false,false,false,false,false,false,false,false,false,false] rfl rfl (bU HT_.out HW_.out (by kernel_rfl)) (fun _ _ _ h=>h) (Or.inl ⟨by rfl,?_⟩) hHeld ?_ ?_
              rotate_left
              ·rintro w' ⟨s0,s1,s2,s3,s4,s5,s6,s7,s8,s9,s10,s11,s12,s13,CO,s15,s16,CP,CQ,CS,s20,CU,CV,CW,s24,DK⟩
               go_simp
               with_reducible rfl
              rotate_left
              ·simp only [Act.put,List.setIfInBounds_toArray,List.set_cons_zero,List.set_cons_succ,aT,aU]
               rfl
              refine bE (i:=9) (N:=some 103) (v:=?_) (a':=?_) #[true,true,true,true,true,true,true,true,true,true,false,false,false,false,false,false,false,false,false,false,false,false,false,false,false,false,false,false,false] rfl rfl (bg HT_.out (by kernel_rfl)) (fun _ _ _ h=>h) (Or.inl ⟨by rfl,?_⟩) ?_ ?_
              rotate_left
              ·intro w'
               go_simp
               with_reducible rfl
              rotate_left
              ·simp only [Act.put,List.setIfInBounds_toArray,List.set_cons_zero,List.set_cons_succ,aT,aU]
               rfl
              refine bE (i:=10) (N:=some 104) (v:=?_) (a':=?_) #[true,true,true,true,true,true,true,true,true,true,true,false,false,false,false,false,false,false,false,false,false,false,false,false,false,false,false,false,false] rfl rfl (bg HT_.out (by kernel_rfl)) (fun _ _ _ h=>h) (Or.inl ⟨by rfl,?_⟩) ?_ ?_
              rotate_left
              ·intro w'
               go_simp
               with_reducible rfl
              rotate_left
              ·simp only [Act.put,List.setIfInBounds_toArray,List.set_cons_zero,List.set_cons_succ,aT,aU]
               rfl
              refine dI (i:=11) (N:=some 105) (v:=?_) (a':=?_) #[true,true,true,true,true,true,true,true,true,true,true,true,false,false,false,false,false,false,false,false,false,false,false,false,false,false,false,false,false] rfl rfl (bU HT_.out HW_.out (by kernel_rfl)) (fun _ _ _ h=>h) (Or.inl ⟨by rfl,?_⟩) hHeld ?_ ?_
              rotate_left
              ·rintro w' ⟨s0,s1,s2,s3,s4,s5,s6,s7,s8,s9,s10,s11,s12,s13,CO,s15,s16,CP,CQ,CS,s20,CU,CV,CW,s24,DK⟩
               go_simp
               with_reducible rfl
              rotate_left
              ·simp only [Act.put,List.setIfInBounds_toArray,List.set_cons_zero,List.set_cons_succ,aT,aU]
               rfl
              refine bE (i:=12) (N:=some 106) (v:=?_) (a':=?_) #[true,true,true,true,true,true,true,true,true,true,true,true,true,false,false,false,false,false,false,false,false,false,false,false,false,false,false,false,false] rfl rfl (bg HT_.out (by kernel_rfl)) (fun _ _ _ h=>h) (Or.inl ⟨by rfl,?_⟩) ?_ ?_
              rotate_left
              ·intro w'
               go_simp
               with_reducible rfl
              rotate_left
              ·simp only [Act.put,List.setIfInBounds_toArray,List.set_cons_zero,List.set_cons_succ,aT,aU]
               rfl
              refine bE (i:=13) (N:=some 107) (v:=?_) (a':=?_) #[true,true,true,true,true,true,true,true,true,true,true,true,true,true,false,false,false,false,false,false,false,false,false,false,false,false,false,false,false] rfl rfl (bg HT_.out (by kernel_rfl)) (fun _ _ _ h=>h) (Or.inl ⟨by rfl,?_⟩) ?_ ?_
              rotate_left
              ·intro w'
               go_simp
               with_reducible rfl
              rotate_left
              ·simp only [Act.put,List.setIfInBounds_toArray,List.set_cons_zero,List.set_cons_succ,aT,aU]
               rfl
              refine bE (i:=14) (N:=some 108) (v:=undef) (a':=?_) #[true,true,true,true,true,true,true,true,true,true,true,true,true,true,true,false,false,false,false,false,false,false,false,false,false,false,false,false,false] rfl rfl (bg HT_.out (by kernel_rfl)) (fun _ _ _ h=>h) (Or.inr ⟨by rfl,rfl⟩) ?_ ?_
              rotate_left
              ·simp only [Act.put,List.setIfInBounds_toArray,List.set_cons_zero,List.set_cons_succ,aT,aU]
               rfl
              refine bE (i:=15) (N:=some 109) (v:=undef) (a':=?_) #[true,true,true,true,true,true,true,true,true,true,true,true,true,true,true,true,false,false,false,false,false,false,false,false,false,false,false,false,false] rfl rfl (bg HT_.out (by kernel_rfl)) (fun _ _ _ h=>h) (Or.inr ⟨by rfl,rfl⟩) ?_ ?_
              rotate_left
              ·simp only [Act.put,List.setIfInBounds_toArray,List.set_cons_zero,List.set_cons_succ,aT,aU]
               rfl
              refine bE (i:=16) (N:=some 110) (v:=undef) (a':=?_) #[true,true,true,true,true,true,true,true,true,true,true,true,true,true,true,true,true,false,false,false,false,false,false,false,false,false,false,false,false] rfl rfl (bg HT_.out (by kernel_rfl)) (fun _ _ _ h=>h) (Or.inr ⟨by rfl,rfl⟩) ?_ ?_
              rotate_left
              ·simp only [Act.put,List.setIfInBounds_toArray,List.set_cons_zero,List.set_cons_succ,aT,aU]
               rfl
              refine bE (i:=17) (N:=some 111) (v:=undef) (a':=?_) #[true,true,true,true,true,true,true,true,true,true,true,true,true,true,true,true,true,true,false,false,false,false,false,false,false,false,false,false,false] rfl rfl (bg HT_.out (by kernel_rfl)) (fun _ _ _ h=>h) (Or.inr ⟨by rfl,rfl⟩) ?_ ?_
              rotate_left
              ·simp only [Act.put,List.setIfInBounds_toArray,List.set_cons_zero,List.set_cons_succ,aT,aU]
               rfl
              refine bE (i:=18) (N:=some 112) (v:=undef) (a':=?_) #[true,true,true,true,true,true,true,true,true,true,true,true,true,true,true,true,true,true,true,false,false,false,false,false,false,false,false,false,false] rfl rfl (bg HT_.out (by kernel_rfl)) (fun _ _ _ h=>h) (Or.inr ⟨by rfl,rfl⟩) ?_ ?_
              rotate_left
              ·simp only [Act.put,List.setIfInBounds_toArray,List.set_cons_zero,List.set_cons_succ,aT,aU]
               rfl
              refine bE (i:=19) (N:=some 113) (v:=undef) (a':=?_) #[true,true,true,true,true,true,true,true,true,true,true,true,true,true,true,true,true,true,true,true,false,false,false,false,false,false,false,false,false] rfl rfl (bg HT_.out (by kernel_rfl)) (fun _ _ _ h=>h) (Or.inr ⟨by rfl,rfl⟩) ?_ ?_
              rotate_left
              ·simp only [Act.put,List.setIfInBounds_toArray,List.set_cons_zero,List.set_cons_succ,aT,aU]
               rfl
              refine bE (i:=20) (N:=some 114) (v:=undef) (a':=?_) #[true,true,true,true,true,true,true,true,true,true,true,true,true,true,true,true,true,true,true,true,true,false,false,false,false,false,false,false,false] rfl rfl (bg HT_.out (by kernel_rfl)) (fun _ _ _ h=>h) (Or.inr ⟨by rfl,rfl⟩) ?_ ?_
              rotate_left
              ·simp only [Act.put,List.setIfInBounds_toArray,List.set_cons_zero,List.set_cons_succ,aT,aU]
               rfl
              refine bE (i:=21) (N:=some 115) (v:=undef) (a':=?_) #[true,true,true,true,true,true,true,true,true,true,true,true,true,true,true,true,true,true,true,true,true,true,false,false,false,false,false,false,false] rfl rfl (bg HT_.out (by kernel_rfl)) (fun _ _ _ h=>h) (Or.inr ⟨by rfl,rfl⟩) ?_ ?_
              rotate_left
              ·simp only [Act.put,List.setIfInBounds_toArray,List.set_cons_zero,List.set_cons_succ,aT,aU]
               rfl
              refine bE (i:=22) (N:=some 116) (v:=undef) (a':=?_) #[true,true,true,true,true,true,true,true,true,true,true,true,true,true,true,true,true,true,true,true,true,true,true,false,false,false,false,false,false] rfl rfl (bg HT_.out (by kernel_rfl)) (fun _ _ _ h=>h) (Or.inr ⟨by rfl,rfl⟩) ?_ ?_
              rotate_left
              ·simp only [Act.put,List.setIfInBounds_toArray,List.set_cons_zero,List.set_cons_succ,aT,aU]
               rfl
              refine bE (i:=23) (N:=some 117) (v:=undef) (a':=?_) #[true,true,true,true,true,true,true,true,true,true,true,true,true,true,true,true,true,true,true,true,true,true,true,true,false,false,false,false,false] rfl rfl (bg HT_.out (by kernel_rfl)) (fun _ _ _ h=>h) (Or.inr ⟨by rfl,rfl⟩) ?_ ?_
              rotate_left
              ·simp only [Act.put,List.setIfInBounds_toArray,List.set_cons_zero,List.set_cons_succ,aT,aU]
               rfl
              refine bE (i:=24) (N:=some 118) (v:=undef) (a':=?_) #[true,true,true,true,true,true,true,true,true,true,true,true,true,true,true,true,true,true,true,true,true,true,true,true,true,false,false,false,false] rfl rfl (bg HT_.out (by kernel_rfl)) (fun _ _ _ h=>h) (Or.inr ⟨by rfl,rfl⟩) ?_ ?_
              rotate_left
              ·simp only [Act.put,List.setIfInBounds_toArray,List.set_cons_zero,List.set_cons_succ,aT,aU]
               rfl
              refine bE (i:=25) (N:=some 119) (v:=undef) (a':=?_) #[true,true,true,true,true,true,true,true,true,true,true,true,true,true,true,true,true,true,true,true,true,true,true,true,true,true,false,false,false] rfl rfl (bg HT_.out (by kernel_rfl)) (fun _ _ _ h=>h) (Or.inr ⟨by rfl,rfl⟩) ?_ ?_
              rotate_left
              ·simp only [Act.put,List.setIfInBounds_toArray,List.set_cons_zero,List.set_cons_succ,aT,aU]
               rfl
              refine bE (i:=26) (N:=some 120) (v:=undef) (a':=?_) #[true,true,true,true,true,true,true,true,true,true,true,true,true,true,true,true,true,true,true,true,true,true,true,true,true,true,true,false,false] rfl rfl (bg HT_.out (by kernel_rfl)) (fun _ _ _ h=>h) (Or.inr ⟨by rfl,rfl⟩) ?_ ?_
              rotate_left
              ·simp only [Act.put,List.setIfInBounds_toArray,List.set_cons_zero,List.set_cons_succ,aT,aU]
               rfl
              refine bE (i:=27) (N:=some 121) (v:=undef) (a':=?_) #[true,true,true,true,true,true,true,true,true,true,true,true,true,true,true,true,true,true,true,true,true,true,true,true,true,true,true,true,false] rfl rfl (bg HT_.out (by kernel_rfl)) (fun _ _ _ h=>h) (Or.inr ⟨by rfl,rfl⟩) ?_ ?_
              rotate_left
              ·simp only [Act.put,List.setIfInBounds_toArray,List.set_cons_zero,List.set_cons_succ,aT,aU]
               rfl
              refine bE (i:=28) (N:=some 122) (v:=?_) (a':=?_) #[true,true,true,true,true,true,true,true,true,true,true,true,true,true,true,true,true,true,true,true,true,true,true,true,true,true,true,true,true] rfl rfl (bg HT_.out (by kernel_rfl)) (fun _ _ _ h=>h) (Or.inl ⟨by rfl,?_⟩) ?_ ?_
              rotate_left
              ·intro w'
               go_simp
               with_reducible rfl
              rotate_left
              ·simp only [Act.put,List.setIfInBounds_toArray,List.set_cons_zero,List.set_cons_succ,aT,aU]
               rfl
              refine jh (gL HT_.out (by kernel_rfl)) ?_
              try go_wp2
              go_ret
              exact ⟨by first|rfl|(simp [aX,aY] <;> rfl)|(simp [*,aX,aY] <;> rfl),by repeat (first|(with_reducible first|exact HB.out|apply av|apply ak|apply au|refine aG ?_ yH.out|refine aG ?_ yO.out)|exact HB.out)⟩
            ·rw [if_neg c87] at H
             exact absurd H (by simp)
           ·rw [if_neg QS] at H
            exact absurd H (by simp)
          ·rw [if_neg c85] at H
           have c85b0 : decide (xV < (xY.length : Int)) = false:=decide_eq_false c85
           clear c85
           obtain rfl:=Option.some.inj H
           have Rq:=yB.out
           have Rs:=yC.out
           have FU : wr.cell? ⟨xW,0,none⟩ = some (.int .i64 yc):=(ah xS.out 0).trans rfl
           have FV : wr.cell? ⟨xW,1,none⟩ = some (.bool yA):=(ah xS.out 1).trans rfl
           have FW : wr.cell? ⟨xW,2,none⟩ = some (.int .i64 yw):=(ah xS.out 2).trans rfl
           have FX : wr.cell? ⟨xW,3,none⟩ = some (.string yx):=(ah xS.out 3).trans rfl
           have FY : wr.cell? ⟨xW,4,none⟩ = some (.slice zi yh.length yP):=(ah xS.out 4).trans rfl
           have FZ : wr.cell? ⟨xW,5,none⟩ = some (.slice zm xY.length yQ):=(ah xS.out 5).trans rfl
           have F3:=aj xS.out 0
           have F6:=aj xS.out 1
           have F7:=aj xS.out 2
           have F8:=aj xS.out 3
           have F9:=aj xS.out 4
           have Ga:=aj xS.out 5
           go_wp2
           go_ret
           exact ⟨by first|rfl|(simp [aX,aY] <;> rfl)|(simp [*,aX,aY] <;> rfl),by repeat (first|(with_reducible first|exact HB.out|apply av|apply ak|apply au|refine aG ?_ yH.out|refine aG ?_ yO.out)|exact HB.out)⟩
       ·rw [if_neg EG] at H
        have c81b0 : ((xY.length : Int) == (xZ.length : Int)) = false:=beq_eq_false_iff_ne.mpr EG
        have c81b1 : ((xY.length : Int) != (xZ.length : Int)) = true:=bne_iff_ne.mpr EG
        have c81b2 : (xY.length == xZ.length) = false:=by first|simpa using EG|(simp at EG ⊢;omega)
        obtain rfl:=Option.some.inj H
        have Rt:=yB.out
        have Ru:=yC.out
        have Gb : wc.cell? ⟨xW,0,none⟩ = some (.int .i64 yc):=(ah xS.out 0).trans rfl
        have Gc : wc.cell? ⟨xW,1,none⟩ = some (.bool yA):=(ah xS.out 1).trans rfl
        have Gd : wc.cell? ⟨xW,2,none⟩ = some (.int .i64 yw):=(ah xS.out 2).trans rfl
        have Gf : wc.cell? ⟨xW,3,none⟩ = some (.string yx):=(ah xS.out 3).trans rfl
        have Gg : wc.cell? ⟨xW,4,none⟩ = some (.slice zi yh.length yP):=(ah xS.out 4).trans rfl
        have Gh : wc.cell? ⟨xW,5,none⟩ = some (.slice zm xY.length yQ):=(ah xS.out 5).trans rfl
        have Gi:=aj xS.out 0
        have Gj:=aj xS.out 1
        have Gl:=aj xS.out 2
        have Gm:=aj xS.out 3
        have Gn:=aj xS.out 4
        have Gp:=aj xS.out 5
        have Gq : wc.cell? ⟨xX,0,none⟩ = some (.int .i64 yG):=(ah xU.out 0).trans rfl
        have Gr : wc.cell? ⟨xX,1,none⟩ = some (.bool yF):=(ah xU.out 1).trans rfl
        have Gs : wc.cell? ⟨xX,2,none⟩ = some (.int .i64 yD):=(ah xU.out 2).trans rfl
        have Gt : wc.cell? ⟨xX,3,none⟩ = some (.string yE):=(ah xU.out 3).trans rfl
        have Gu : wc.cell? ⟨xX,4,none⟩ = some (.slice zP yj.length zw):=(ah xU.out 4).trans rfl
        have Gv : wc.cell? ⟨xX,5,none⟩ = some (.slice Ao xZ.length zx):=(ah xU.out 5).trans rfl
        have Gw:=aj xU.out 0
        have Gx:=aj xU.out 1
        have Gy:=aj xU.out 2
        have Gz:=aj xU.out 3
        have GA:=aj xU.out 4
        have GD:=aj xU.out 5
        go_wp2
        go_ret
        exact ⟨by first|rfl|(simp [aX,aY] <;> rfl)|(simp [*,aX,aY] <;> rfl),by repeat (first|(with_reducible first|exact HB.out|apply av|apply ak|apply au|refine aG ?_ yH.out|refine aG ?_ yO.out)|exact HB.out)⟩
      ·rw [if_neg c80] at H
       have c80b0 : (yc == 5) = false:=beq_eq_false_iff_ne.mpr c80
       have c80b1 : (yc != 5) = true:=bne_iff_ne.mpr c80
       obtain rfl:=Option.some.inj H
       have Rv:=yB.out
       have Rw:=yC.out
       have GH : wc.cell? ⟨xW,0,none⟩ = some (.int .i64 yc):=(ah xS.out 0).trans rfl
       have GI : wc.cell? ⟨xW,1,none⟩ = some (.bool yA):=(ah xS.out 1).trans rfl
       have GJ : wc.cell? ⟨xW,2,none⟩ = some (.int .i64 yw):=(ah xS.out 2).trans rfl
       have GK : wc.cell? ⟨xW,3,none⟩ = some (.string yx):=(ah xS.out 3).trans rfl
       have GL : wc.cell? ⟨xW,4,none⟩ = some (.slice zi yh.length yP):=(ah xS.out 4).trans rfl
       have GN : wc.cell? ⟨xW,5,none⟩ = some (.slice zm xY.length yQ):=(ah xS.out 5).trans rfl
       have GQ:=aj xS.out 0
       have GR:=aj xS.out 1
       have GU:=aj xS.out 2
       have GV:=aj xS.out 3
       have GY:=aj xS.out 4
       have GZ:=aj xS.out 5
       go_wp2
       go_ret
       exact ⟨by first|rfl|(simp [aX,aY] <;> rfl)|(simp [*,aX,aY] <;> rfl),by repeat (first|(with_reducible first|exact HB.out|apply av|apply ak|apply au|refine aG ?_ yH.out|refine aG ?_ yO.out)|exact HB.out)⟩
end Go.Proofs.YtnkkbiabloodaaaDoor.GVa
