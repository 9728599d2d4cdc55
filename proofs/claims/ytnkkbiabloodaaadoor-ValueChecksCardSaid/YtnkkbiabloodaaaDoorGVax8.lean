/- Written by this session's own program (wip/gen.py) out of the translation: plain Lean functions of the Go functions, and proofs that the calls come to their answers. No conditions beside those in the statements. -/
import Derived.Test.YtnkkbiabloodaaaDoorGVax0
namespace Go.Proofs.YtnkkbiabloodaaaDoor.GVa
open Go.RowKit Go.Proofs.YtnkkbiabloodaaaDoorW.PrintWords Go.Proofs.YtnkkbiabloodaaaDoorW.PrintLast Go.Proofs.YtnkkbiabloodaaaDoorW.PrintMore
attribute [local go_sem] eG eH fK fM dZ d9 eO eP
set_option linter.unusedVariables false
set_option linter.unusedSimpArgs false
mutual
def aJ.j0 : Nat → Bool → Int → Bool → Int → ByteArray → List (S33) → List (S50) → Int → Bool → Int → ByteArray → List (S33) → List (S50) → Option (Bool)
 | 0,_,_,_,_,_,_,_,_,_,_,_,_,_=>none
 | k + 1,SF,zO,Ap,Aq,Ar,yR,yM,Au,Av,AA,AB,yS,yN=>if SF = true then (some false) else (if zO = 4 then (if (yR.length : Int) = (yS.length : Int) then (aJ.l0 k 0 zO Ap Aq Ar yR yM Au Av AA AB yS yN) else (some false)) else (aJ.j2 k zO Ap Aq Ar yR yM Au Av AA AB yS yN))
def aJ.j2 : Nat → Int → Bool → Int → ByteArray → List (S33) → List (S50) → Int → Bool → Int → ByteArray → List (S33) → List (S50) → Option (Bool)
 | 0,_,_,_,_,_,_,_,_,_,_,_,_=>none
 | k + 1,zO,Ap,Aq,Ar,yR,yM,Au,Av,AA,AB,yS,yN=>if zO = 5 then (if (yM.length : Int) = (yN.length : Int) then (aJ.l1 k 0 zO Ap Aq Ar yR yM Au Av AA AB yS yN) else (some false)) else (some true)
def aJ.l1 : Nat → Int → Int → Bool → Int → ByteArray → List (S33) → List (S50) → Int → Bool → Int → ByteArray → List (S33) → List (S50) → Option (Bool)
 | 0,_,_,_,_,_,_,_,_,_,_,_,_,_=>none
 | k + 1,x6,zO,Ap,Aq,Ar,yR,yM,Au,Av,AA,AB,yS,yN=>if x6 < (yM.length : Int) then (if 0 ≤ x6 then (if x6 < (yN.length : Int) then (if ((aW yM x6).f0).toList = ((aW yN x6).f0).toList then ((aJ.f k ((aW yM x6).f1.f0) ((aW yM x6).f1.f1) ((aW yM x6).f1.f2) ((aW yM x6).f1.f3) ((aW yM x6).f1.f4) ((aW yM x6).f1.f5) ((aW yN x6).f1.f0) ((aW yN x6).f1.f1) ((aW yN x6).f1.f2) ((aW yN x6).f1.f3) ((aW yN x6).f1.f4) ((aW yN x6).f1.f5)).bind fun EJ=>(if EJ = true then (aJ.l1 k (wrap64 (x6 + 1)) zO Ap Aq Ar yR yM Au Av AA AB yS yN) else (some false))) else (some false)) else (none)) else (none)) else (some true)
def aJ.l0 : Nat → Int → Int → Bool → Int → ByteArray → List (S33) → List (S50) → Int → Bool → Int → ByteArray → List (S33) → List (S50) → Option (Bool)
 | 0,_,_,_,_,_,_,_,_,_,_,_,_,_=>none
 | k + 1,x5,zO,Ap,Aq,Ar,yR,yM,Au,Av,AA,AB,yS,yN=>if x5 < (yR.length : Int) then (if 0 ≤ x5 then (if x5 < (yS.length : Int) then ((aJ.f k ((bD yR x5).f0) ((bD yR x5).f1) ((bD yR x5).f2) ((bD yR x5).f3) ((bD yR x5).f4) ((bD yR x5).f5) ((bD yS x5).f0) ((bD yS x5).f1) ((bD yS x5).f2) ((bD yS x5).f3) ((bD yS x5).f4) ((bD yS x5).f5)).bind fun EK=>(if EK = true then (aJ.l0 k (wrap64 (x5 + 1)) zO Ap Aq Ar yR yM Au Av AA AB yS yN) else (some false))) else (none)) else (none)) else (aJ.j2 k zO Ap Aq Ar yR yM Au Av AA AB yS yN)
def aJ.f : Nat → Int → Bool → Int → ByteArray → List (S33) → List (S50) → Int → Bool → Int → ByteArray → List (S33) → List (S50) → Option (Bool)
 | 0,_,_,_,_,_,_,_,_,_,_,_,_=>none
 | k + 1,yc,yA,yw,yx,yh,xY,yG,yF,yD,yE,yj,xZ=>if yc = yG then (if yc = 1 then (if (yA != yF) = true then (aJ.j0 k true yc yA yw yx yh xY yG yF yD yE yj xZ) else (if yc = 2 then (if yw = yD then (if yc = 3 then (aJ.j0 k (yx.toList != yE.toList) yc yA yw yx yh xY yG yF yD yE yj xZ) else (aJ.j0 k false yc yA yw yx yh xY yG yF yD yE yj xZ)) else (aJ.j0 k true yc yA yw yx yh xY yG yF yD yE yj xZ)) else (if yc = 3 then (aJ.j0 k (yx.toList != yE.toList) yc yA yw yx yh xY yG yF yD yE yj xZ) else (aJ.j0 k false yc yA yw yx yh xY yG yF yD yE yj xZ)))) else (if yc = 2 then (if yw = yD then (if yc = 3 then (aJ.j0 k (yx.toList != yE.toList) yc yA yw yx yh xY yG yF yD yE yj xZ) else (aJ.j0 k false yc yA yw yx yh xY yG yF yD yE yj xZ)) else (aJ.j0 k true yc yA yw yx yh xY yG yF yD yE yj xZ)) else (if yc = 3 then (aJ.j0 k (yx.toList != yE.toList) yc yA yw yx yh xY yG yF yD yE yj xZ) else (aJ.j0 k false yc yA yw yx yh xY yG yF yD yE yj xZ)))) else (aJ.j0 k true yc yA yw yx yh xY yG yF yD yE yj xZ)
end
theorem aJ.eu : ∀ k,(∀ y0 y1 y2 y3 y4 y5 y6 y7 y8 y9 Du Dv,LeO (aJ.f k y0 y1 y2 y3 y4 y5 y6 y7 y8 y9 Du Dv) (aJ.f (k + 1) y0 y1 y2 y3 y4 y5 y6 y7 y8 y9 Du Dv)) ∧ (∀ y0 y1 y2 y3 y4 y5 y6 y7 y8 y9 Du Dv Es,LeO (aJ.j0 k y0 y1 y2 y3 y4 y5 y6 y7 y8 y9 Du Dv Es) (aJ.j0 (k + 1) y0 y1 y2 y3 y4 y5 y6 y7 y8 y9 Du Dv Es)) ∧ (∀ y0 y1 y2 y3 y4 y5 y6 y7 y8 y9 Du Dv,LeO (aJ.j2 k y0 y1 y2 y3 y4 y5 y6 y7 y8 y9 Du Dv) (aJ.j2 (k + 1) y0 y1 y2 y3 y4 y5 y6 y7 y8 y9 Du Dv)) ∧ (∀ y0 y1 y2 y3 y4 y5 y6 y7 y8 y9 Du Dv Es,LeO (aJ.l1 k y0 y1 y2 y3 y4 y5 y6 y7 y8 y9 Du Dv Es) (aJ.l1 (k + 1) y0 y1 y2 y3 y4 y5 y6 y7 y8 y9 Du Dv Es)) ∧ (∀ y0 y1 y2 y3 y4 y5 y6 y7 y8 y9 Du Dv Es,LeO (aJ.l0 k y0 y1 y2 y3 y4 y5 y6 y7 y8 y9 Du Dv Es) (aJ.l0 (k + 1) y0 y1 y2 y3 y4 y5 y6 y7 y8 y9 Du Dv Es))
 | 0=>⟨fun _ _ _ _ _ _ _ _ _ _ _ _ r h=>by simp [aJ.f] at h,fun _ _ _ _ _ _ _ _ _ _ _ _ _ r h=>by simp [aJ.j0] at h,fun _ _ _ _ _ _ _ _ _ _ _ _ r h=>by simp [aJ.j2] at h,fun _ _ _ _ _ _ _ _ _ _ _ _ _ r h=>by simp [aJ.l1] at h,fun _ _ _ _ _ _ _ _ _ _ _ _ _ r h=>by simp [aJ.l0] at h⟩
 | k + 1=>by
  obtain ⟨Er,ih1,ih2,ih3,ih4⟩:=aJ.eu k
  refine ⟨?_,?_,?_,?_,?_⟩
  ·intro y0 y1 y2 y3 y4 y5 y6 y7 y8 y9 Du Dv
   unfold aJ.f
   repeat' first
   | (with_reducible exact Er _ _ _ _ _ _ _ _ _ _ _ _)
   | (with_reducible exact ih1 _ _ _ _ _ _ _ _ _ _ _ _ _)
   | (with_reducible exact ih2 _ _ _ _ _ _ _ _ _ _ _ _)
   | (with_reducible exact ih3 _ _ _ _ _ _ _ _ _ _ _ _ _)
   | (with_reducible exact ih4 _ _ _ _ _ _ _ _ _ _ _ _ _)
   | (with_reducible exact LeO.refl _)
   | (with_reducible exact LeO.none _)
   | (with_reducible refine LeO.ite ?_ ?_)
   | (with_reducible refine LeO.bind ?_ (fun _=>?_))
   | exact Er _ _ _ _ _ _ _ _ _ _ _ _
   | exact ih1 _ _ _ _ _ _ _ _ _ _ _ _ _
   | exact ih2 _ _ _ _ _ _ _ _ _ _ _ _
   | exact ih3 _ _ _ _ _ _ _ _ _ _ _ _ _
   | exact ih4 _ _ _ _ _ _ _ _ _ _ _ _ _
   | exact LeO.none _
   | refine LeO.ite ?_ ?_
   | refine LeO.bind ?_ (fun _=>?_)
  ·intro y0 y1 y2 y3 y4 y5 y6 y7 y8 y9 Du Dv Es
   unfold aJ.j0
   repeat' first
   | (with_reducible exact Er _ _ _ _ _ _ _ _ _ _ _ _)
   | (with_reducible exact ih1 _ _ _ _ _ _ _ _ _ _ _ _ _)
   | (with_reducible exact ih2 _ _ _ _ _ _ _ _ _ _ _ _)
   | (with_reducible exact ih3 _ _ _ _ _ _ _ _ _ _ _ _ _)
   | (with_reducible exact ih4 _ _ _ _ _ _ _ _ _ _ _ _ _)
   | (with_reducible exact LeO.refl _)
   | (with_reducible exact LeO.none _)
   | (with_reducible refine LeO.ite ?_ ?_)
   | (with_reducible refine LeO.bind ?_ (fun _=>?_))
   | exact Er _ _ _ _ _ _ _ _ _ _ _ _
   | exact ih1 _ _ _ _ _ _ _ _ _ _ _ _ _
   | exact ih2 _ _ _ _ _ _ _ _ _ _ _ _
   | exact ih3 _ _ _ _ _ _ _ _ _ _ _ _ _
   | exact ih4 _ _ _ _ _ _ _ _ _ _ _ _ _
   | exact LeO.none _
   | refine LeO.ite ?_ ?_
   | refine LeO.bind ?_ (fun _=>?_)
  ·intro y0 y1 y2 y3 y4 y5 y6 y7 y8 y9 Du Dv
   unfold aJ.j2
   repeat' first
   | (with_reducible exact Er _ _ _ _ _ _ _ _ _ _ _ _)
   | (with_reducible exact ih1 _ _ _ _ _ _ _ _ _ _ _ _ _)
   | (with_reducible exact ih2 _ _ _ _ _ _ _ _ _ _ _ _)
   | (with_reducible exact ih3 _ _ _ _ _ _ _ _ _ _ _ _ _)
   | (with_reducible exact ih4 _ _ _ _ _ _ _ _ _ _ _ _ _)
   | (with_reducible exact LeO.refl _)
   | (with_reducible exact LeO.none _)
   | (with_reducible refine LeO.ite ?_ ?_)
   | (with_reducible refine LeO.bind ?_ (fun _=>?_))
   | exact Er _ _ _ _ _ _ _ _ _ _ _ _
   | exact ih1 _ _ _ _ _ _ _ _ _ _ _ _ _
   | exact ih2 _ _ _ _ _ _ _ _ _ _ _ _
   | exact ih3 _ _ _ _ _ _ _ _ _ _ _ _ _
   | exact ih4 _ _ _ _ _ _ _ _ _ _ _ _ _
   | exact LeO.none _
   | refine LeO.ite ?_ ?_
   | refine LeO.bind ?_ (fun _=>?_)
  ·intro y0 y1 y2 y3 y4 y5 y6 y7 y8 y9 Du Dv Es
   unfold aJ.l1
   repeat' first
   | (with_reducible exact Er _ _ _ _ _ _ _ _ _ _ _ _)
   | (with_reducible exact ih1 _ _ _ _ _ _ _ _ _ _ _ _ _)
   | (with_reducible exact ih2 _ _ _ _ _ _ _ _ _ _ _ _)
   | (with_reducible exact ih3 _ _ _ _ _ _ _ _ _ _ _ _ _)
   | (with_reducible exact ih4 _ _ _ _ _ _ _ _ _ _ _ _ _)
   | (with_reducible exact LeO.refl _)
   | (with_reducible exact LeO.none _)
   | (with_reducible refine LeO.ite ?_ ?_)
   | (with_reducible refine LeO.bind ?_ (fun _=>?_))
   | exact Er _ _ _ _ _ _ _ _ _ _ _ _
   | exact ih1 _ _ _ _ _ _ _ _ _ _ _ _ _
   | exact ih2 _ _ _ _ _ _ _ _ _ _ _ _
   | exact ih3 _ _ _ _ _ _ _ _ _ _ _ _ _
   | exact ih4 _ _ _ _ _ _ _ _ _ _ _ _ _
   | exact LeO.none _
   | refine LeO.ite ?_ ?_
   | refine LeO.bind ?_ (fun _=>?_)
  ·intro y0 y1 y2 y3 y4 y5 y6 y7 y8 y9 Du Dv Es
   unfold aJ.l0
   repeat' first
   | (with_reducible exact Er _ _ _ _ _ _ _ _ _ _ _ _)
   | (with_reducible exact ih1 _ _ _ _ _ _ _ _ _ _ _ _ _)
   | (with_reducible exact ih2 _ _ _ _ _ _ _ _ _ _ _ _)
   | (with_reducible exact ih3 _ _ _ _ _ _ _ _ _ _ _ _ _)
   | (with_reducible exact ih4 _ _ _ _ _ _ _ _ _ _ _ _ _)
   | (with_reducible exact LeO.refl _)
   | (with_reducible exact LeO.none _)
   | (with_reducible refine LeO.ite ?_ ?_)
   | (with_reducible refine LeO.bind ?_ (fun _=>?_))
   | exact Er _ _ _ _ _ _ _ _ _ _ _ _
   | exact ih1 _ _ _ _ _ _ _ _ _ _ _ _ _
   | exact ih2 _ _ _ _ _ _ _ _ _ _ _ _
   | exact ih3 _ _ _ _ _ _ _ _ _ _ _ _ _
   | exact ih4 _ _ _ _ _ _ _ _ _ _ _ _ _
   | exact LeO.none _
   | refine LeO.ite ?_ ?_
   | refine LeO.bind ?_ (fun _=>?_)
theorem aJ.mono : ∀ a0 a1 a2 a3 a4 a5 a6 a7 a8 a9 GV GY k,LeO (aJ.f k a0 a1 a2 a3 a4 a5 a6 a7 a8 a9 GV GY) (aJ.f (k + 1) a0 a1 a2 a3 a4 a5 a6 a7 a8 a9 GV GY):=by
 intro a0 a1 a2 a3 a4 a5 a6 a7 a8 a9 GV GY k
 obtain ⟨Er,ih1,ih2,ih3,ih4⟩:=aJ.eu k
 exact Er a0 a1 a2 a3 a4 a5 a6 a7 a8 a9 GV GY
def aJ.T9 : Bool × List (List Nat × List Nat):=(true,[([],[]),([0],[0]),([],[]),([1,2],[1,2]),([3],[3]),([],[]),([5],[5]),([],[]),([6,7],[6,7]),([8],[8]),([4,9],[4,9]),([10],[10])])
def aJ.B9 : List Nat:=[0,1,0,7,15,0,32,0,224,480,1023,2047]
theorem aJ.wM : iA .any (opsOf Tryd.f13 9) = aJ.T9:=by kernel_rfl
theorem aJ.uT : gQ aJ.T9.2 aJ.B9 = true:=by kernel_rfl
def aJ.T17 : Bool × List (List Nat × List Nat):=(true,[([],[]),([0],[0]),([],[]),([1,2],[1,2]),([3],[3]),([4],[4]),([],[]),([6],[6]),([],[]),([7,8],[7,8]),([9],[9]),([10],[10]),([5,11],[5,11]),([12],[12]),([13],[13]),([14,13],[13,14]),([13],[13]),([15,16,13],[13,15,16]),([17,13],[13,17]),([18,13],[13,18]),([13],[13]),([20,13],[13,20]),([13],[13]),([21,22,13],[13,21,22]),([23,13],[13,23]),([24,13],[13,24]),([19,25,13,13],[13,19,25]),([26,13],[13,26]),([13,27],[13,27])])
def aJ.B17 : List Nat:=[0,1,0,7,15,31,0,64,0,448,960,1984,4095,8191,16383,32767,16383,131071,262143,524287,16383,1064959,16383,7356415,15745023,32522239,67108863,134217727,268435455]
theorem aJ.oq : iA .any (opsOf Tryd.f13 17) = aJ.T17:=by kernel_rfl
theorem aJ.mq : gQ aJ.T17.2 aJ.B17 = true:=by kernel_rfl
set_option maxHeartbeats 8000000 in
set_option maxRecDepth 100000 in
theorem aJ.calls (k : Nat) : ∀ (yc : Int) (yA : Bool) (yw : Int) (yx : ByteArray) (zi : Option Addr) (yP : Nat) (yh : List (S33)) (zm : Option Addr) (yQ : Nat) (xY : List (S50)) (yG : Int) (yF : Bool) (yD : Int) (yE : ByteArray) (zP : Option Addr) (zw : Nat) (yj : List (S33)) (Ao : Option Addr) (zx : Nat) (xZ : List (S50)) (r : Bool) (w : World) (Et : Kd.C k33 w zi yh.length yh) (Eu : yh.length ≤ yP) (Ew : Kd.C k50 w zm xY.length xY) (Ey : xY.length ≤ yQ) (Ez : Kd.C k33 w zP yj.length yj) (EA : yj.length ≤ zw) (EB : Kd.C k50 w Ao xZ.length xZ) (EC : xZ.length ≤ zx) (h : aJ.f k yc yA yw yx yh xY yG yF yD yE yj xZ = some r),
  Calls Tryd.prog 13 #[.agg #[.int .i64 yc,.bool yA,.int .i64 yw,.string yx,.slice zi yh.length yP,.slice zm xY.length yQ],.agg #[.int .i64 yG,.bool yF,.int .i64 yD,.string yE,.slice zP yj.length zw,.slice Ao xZ.length zx]] w fun e w'=>e = .returned (.bool r) ∧ Below w.heap.size w w':=by
 induction k using Nat.strongRecOn with
 | _ k ih =>
 intro yc yA yw yx zi yP yh zm yQ xY yG yF yD yE zP zw yj Ao zx xZ r w Et Eu Ew Ey Ez EA EB EC h
 cases k with
 | zero=>exact absurd h (by simp [aJ.f])
 | succ k =>
 simp only [aJ.f] at h
 have SG:=Tryd.underlying33
 have EM:=Aside0.mk Et
 have Rt:=Aside0.mk Eu
 clear Et Eu
 have DL:=Aside0.mk Ew
 have Ru:=Aside0.mk Ey
 clear Ew Ey
 have EN:=Aside0.mk Ez
 have Rv:=Aside0.mk EA
 clear Ez EA
 have DN:=Aside0.mk EB
 have Rw:=Aside0.mk EC
 clear EB EC
 have HB:=Aside0.mk (Below.refl w.heap.size w)
 have H : (if yc = yG then (if yc = 1 then (if (yA != yF) = true then (aJ.j0 k true yc yA yw yx yh xY yG yF yD yE yj xZ) else (if yc = 2 then (if yw = yD then (if yc = 3 then (aJ.j0 k (yx.toList != yE.toList) yc yA yw yx yh xY yG yF yD yE yj xZ) else (aJ.j0 k false yc yA yw yx yh xY yG yF yD yE yj xZ)) else (aJ.j0 k true yc yA yw yx yh xY yG yF yD yE yj xZ)) else (if yc = 3 then (aJ.j0 k (yx.toList != yE.toList) yc yA yw yx yh xY yG yF yD yE yj xZ) else (aJ.j0 k false yc yA yw yx yh xY yG yF yD yE yj xZ)))) else (if yc = 2 then (if yw = yD then (if yc = 3 then (aJ.j0 k (yx.toList != yE.toList) yc yA yw yx yh xY yG yF yD yE yj xZ) else (aJ.j0 k false yc yA yw yx yh xY yG yF yD yE yj xZ)) else (aJ.j0 k true yc yA yw yx yh xY yG yF yD yE yj xZ)) else (if yc = 3 then (aJ.j0 k (yx.toList != yE.toList) yc yA yw yx yh xY yG yF yD yE yj xZ) else (aJ.j0 k false yc yA yw yx yh xY yG yF yD yE yj xZ)))) else (aJ.j0 k true yc yA yw yx yh xY yG yF yD yE yj xZ)) = some r:=h
 clear h
 have Rl:=Aside0.mk H
 clear H
 go_enter Tryd.func13,Tryd.ntmps13
 go_upto_region 1 with (first|((with_reducible refine bV (N:=2) rfl ?_);refine bT ?hg (N:=2) ?hd (cs:=#[.int .i64 yc,.bool yA,.int .i64 yw,.string yx,.slice zi yh.length yP,.slice zm xY.length yQ]) (t:=33) ?hr ?_;(case hd=>rfl);(case hg=>rfl);(case hr=>first|(go_simp;done)|(go_simp;rfl));intro xW hg w4 hbox hb;have BQ:=Aside0.mk (aT (by repeat (first|(with_reducible first|exact HB.out|apply av|apply ak|apply au)|exact HB.out)) hb);have BR:=Aside0.mk (hbox);have BS:=Aside0.mk ((by rw [hg];exact (aM (by repeat (first|(with_reducible first|exact HB.out|apply av|apply ak|apply au)|exact HB.out))) : w.heap.size ≤ xW));have Fp:=Aside0.mk ((by rw [hg];exact (aM (by repeat (first|(with_reducible first|exact HB.out|apply av|apply ak|apply au)|exact HB.out))) : w.heap.size ≤ xW));clear HB;have HB:=BQ;have xS:=BR;have Rx:=BS;have yH:=Fp;clear BQ BR BS Fp;clear hb hbox hg)|((with_reducible refine bV (N:=3) rfl ?_);refine bT ?hg (N:=3) ?hd (cs:=#[.int .i64 yG,.bool yF,.int .i64 yD,.string yE,.slice zP yj.length zw,.slice Ao xZ.length zx]) (t:=33) ?hr ?_;(case hd=>rfl);(case hg=>rfl);(case hr=>first|(go_simp;done)|(go_simp;rfl));intro xX hg w5 hbox hb;have BQ:=Aside0.mk (aU (g:=xW) (o:=.cells #[.int .i64 yc,.bool yA,.int .i64 yw,.string yx,.slice zi yh.length yP,.slice zm xY.length yQ] 33 (0,0)) (bk_ xS.out) hb);have BR:=Aside0.mk (aT (by repeat (first|(with_reducible first|exact HB.out|apply av|apply ak|apply au|refine aD ?_ yH.out)|exact HB.out)) hb);have BS:=Aside0.mk (hbox);have Fp:=Aside0.mk ((by rw [hg];exact (aM (by repeat (first|(with_reducible first|exact HB.out|apply av|apply ak|apply au|refine aD ?_ yH.out)|exact HB.out))) : w.heap.size ≤ xX));have Ry:=Aside0.mk ((by rw [hg];exact (aM (by repeat (first|(with_reducible first|exact HB.out|apply av|apply ak|apply au|refine aD ?_ yH.out)|exact HB.out))) : w.heap.size ≤ xX));have Rz:=Aside0.mk ((by rw [hg];exact Nat.ne_of_lt (dn (g:=xW) (o:=.cells #[.int .i64 yc,.bool yA,.int .i64 yw,.string yx,.slice zi yh.length yP,.slice zm xY.length yQ] 33 (0,0)) (bk_ xS.out)) : xW ≠ xX));have RA:=Aside0.mk ((by rw [hg];exact Nat.ne_of_gt (dn (g:=xW) (o:=.cells #[.int .i64 yc,.bool yA,.int .i64 yw,.string yx,.slice zi yh.length yP,.slice zm xY.length yQ] 33 (0,0)) (bk_ xS.out)) : xX ≠ xW));clear xS;clear HB;have xS:=BQ;have HB:=BR;have xU:=BS;have RB:=Fp;have yO:=Ry;have yB:=Rz;have yC:=RA;clear BQ BR BS Fp Ry Rz RA;clear hb hbox hg))
 (try simp only [Act.put,List.setIfInBounds_toArray,List.set_cons_zero,List.set_cons_succ])
 go_cut [47] (fun v47 wc=>∃ (kq : Nat) (El : Bool),v47 = .bool El ∧ Aside0 (aJ.j0 kq El yc yA yw yx yh xY yG yF yD yE yj xZ = some r) ∧ Aside0 (kq ≤ k) ∧ Aside0 (wc.heap[xW]? = some (.cells #[.int .i64 yc,.bool yA,.int .i64 yw,.string yx,(.slice zi yh.length yP),(.slice zm xY.length yQ)] 33 (0,0))) ∧ Aside0 (wc.heap[xX]? = some (.cells #[.int .i64 yG,.bool yF,.int .i64 yD,.string yE,(.slice zP yj.length zw),(.slice Ao xZ.length zx)] 33 (0,0))) ∧ Aside0 (Below w.heap.size w wc))
 case first =>
  have H:=Rl.out
  clear Rl
  by_cases c6 : yc = yG
  ·rw [if_pos c6] at H
   have c6b0 : (yc == yG) = true:=beq_iff_eq.mpr c6
   have c6b1 : (yc != yG) = false:=bne_eq_false_iff_eq.mpr c6
   clear c6
   (first|rw [c6b0]|(simp only [bA,bB];rw [c6b0])|skip)
   by_cases c7 : yc = 1
   ·rw [if_pos c7] at H
    have c7b0 : (yc == 1) = true:=beq_iff_eq.mpr c7
    have c7b1 : (yc != 1) = false:=bne_eq_false_iff_eq.mpr c7
    clear c7
    by_cases c8 : (yA != yF) = true
    ·rw [if_pos c8] at H
     have c8b0 : (yA != yF) = true:=c8
     (try (have c8b1 : decide (yA = yF) = false:=by simpa using c8))
     (try (have c8b2 : (yA == yF) = false:=by simpa using c8))
     (try (have c8b3 : ¬ (yA = yF):=by simpa using c8))
     clear c8
     have H':=Aside0.mk H
     clear H
     have SH:=yB.out
     have SI:=yC.out
     have GZ : w5.cell? ⟨xW,0,none⟩ = some (.int .i64 yc):=(ah xS.out 0).trans rfl
     have G5 : w5.cell? ⟨xW,1,none⟩ = some (.bool yA):=(ah xS.out 1).trans rfl
     have G6 : w5.cell? ⟨xW,2,none⟩ = some (.int .i64 yw):=(ah xS.out 2).trans rfl
     have G7 : w5.cell? ⟨xW,3,none⟩ = some (.string yx):=(ah xS.out 3).trans rfl
     have G8 : w5.cell? ⟨xW,4,none⟩ = some (.slice zi yh.length yP):=(ah xS.out 4).trans rfl
     have G9 : w5.cell? ⟨xW,5,none⟩ = some (.slice zm xY.length yQ):=(ah xS.out 5).trans rfl
     have He:=aj xS.out 0
     have Hf:=aj xS.out 1
     have Hg:=aj xS.out 2
     have Hl:=aj xS.out 3
     have Ho:=aj xS.out 4
     have Hq:=aj xS.out 5
     have Hr : w5.cell? ⟨xX,0,none⟩ = some (.int .i64 yG):=(ah xU.out 0).trans rfl
     have Ht : w5.cell? ⟨xX,1,none⟩ = some (.bool yF):=(ah xU.out 1).trans rfl
     have Hu : w5.cell? ⟨xX,2,none⟩ = some (.int .i64 yD):=(ah xU.out 2).trans rfl
     have Hw : w5.cell? ⟨xX,3,none⟩ = some (.string yE):=(ah xU.out 3).trans rfl
     have Hy : w5.cell? ⟨xX,4,none⟩ = some (.slice zP yj.length zw):=(ah xU.out 4).trans rfl
     have Hz : w5.cell? ⟨xX,5,none⟩ = some (.slice Ao xZ.length zx):=(ah xU.out 5).trans rfl
     have H6:=aj xU.out 0
     have H7:=aj xU.out 1
     have H8:=aj xU.out 2
     have H9:=aj xU.out 3
     have Ia:=aj xU.out 4
     have Ib:=aj xU.out 5
     go_wp2
     go_meet
     case rel=>exact ⟨_,(true),(by first|rfl|(simp;done)|(simp [*];done)),H',⟨by first|omega|exact Nat.le_refl _⟩,⟨by (with_reducible repeat (first|apply aA|apply aC|apply ay));exact xS.out⟩,⟨by (with_reducible repeat (first|apply aA|apply aC|apply ay));exact xU.out⟩,⟨by repeat (first|(with_reducible first|exact HB.out|apply av|apply ak|apply au|refine aD ?_ yH.out|refine aD ?_ yO.out)|exact HB.out)⟩⟩
    ·rw [if_neg c8] at H
     have c8b0 : (yA != yF) = false:=by simpa using c8
     (try (have c8b1 : decide (yA = yF) = true:=by simpa using c8))
     (try (have c8b2 : (yA == yF) = true:=by simpa using c8))
     clear c8
     by_cases c12 : yc = 2
     ·rw [if_pos c12] at H
      have c12b0 : (yc == 2) = true:=beq_iff_eq.mpr c12
      have c12b1 : (yc != 2) = false:=bne_eq_false_iff_eq.mpr c12
      clear c12
      by_cases c13 : yw = yD
      ·rw [if_pos c13] at H
       have c13b0 : (yw == yD) = true:=beq_iff_eq.mpr c13
       have c13b1 : (yw != yD) = false:=bne_eq_false_iff_eq.mpr c13
       clear c13
       by_cases c14 : yc = 3
       ·rw [if_pos c14] at H
        have c14b0 : (yc == 3) = true:=beq_iff_eq.mpr c14
        have c14b1 : (yc != 3) = false:=bne_eq_false_iff_eq.mpr c14
        clear c14
        have H':=Aside0.mk H
        clear H
        have RD:=yB.out
        have RF:=yC.out
        have Ic : w5.cell? ⟨xW,0,none⟩ = some (.int .i64 yc):=(ah xS.out 0).trans rfl
        have Ie : w5.cell? ⟨xW,1,none⟩ = some (.bool yA):=(ah xS.out 1).trans rfl
        have Ig : w5.cell? ⟨xW,2,none⟩ = some (.int .i64 yw):=(ah xS.out 2).trans rfl
        have Ih : w5.cell? ⟨xW,3,none⟩ = some (.string yx):=(ah xS.out 3).trans rfl
        have Ii : w5.cell? ⟨xW,4,none⟩ = some (.slice zi yh.length yP):=(ah xS.out 4).trans rfl
        have Ij : w5.cell? ⟨xW,5,none⟩ = some (.slice zm xY.length yQ):=(ah xS.out 5).trans rfl
        have Ik:=aj xS.out 0
        have Il:=aj xS.out 1
        have Im:=aj xS.out 2
        have Io:=aj xS.out 3
        have Ip:=aj xS.out 4
        have Iq:=aj xS.out 5
        have Ir : w5.cell? ⟨xX,0,none⟩ = some (.int .i64 yG):=(ah xU.out 0).trans rfl
        have Iu : w5.cell? ⟨xX,1,none⟩ = some (.bool yF):=(ah xU.out 1).trans rfl
        have Iw : w5.cell? ⟨xX,2,none⟩ = some (.int .i64 yD):=(ah xU.out 2).trans rfl
        have Iy : w5.cell? ⟨xX,3,none⟩ = some (.string yE):=(ah xU.out 3).trans rfl
        have Iz : w5.cell? ⟨xX,4,none⟩ = some (.slice zP yj.length zw):=(ah xU.out 4).trans rfl
        have IB : w5.cell? ⟨xX,5,none⟩ = some (.slice Ao xZ.length zx):=(ah xU.out 5).trans rfl
        have IC:=aj xU.out 0
        have IE:=aj xU.out 1
        have IG:=aj xU.out 2
        have II:=aj xU.out 3
        have IJ:=aj xU.out 4
        have IK:=aj xU.out 5
        go_wp2
        go_meet
        case rel=>exact ⟨_,((yx.toList != yE.toList)),(by first|rfl|(simp;done)|(simp [*];done)),H',⟨by first|omega|exact Nat.le_refl _⟩,⟨by (with_reducible repeat (first|apply aA|apply aC|apply ay));exact xS.out⟩,⟨by (with_reducible repeat (first|apply aA|apply aC|apply ay));exact xU.out⟩,⟨by repeat (first|(with_reducible first|exact HB.out|apply av|apply ak|apply au|refine aD ?_ yH.out|refine aD ?_ yO.out)|exact HB.out)⟩⟩
       ·rw [if_neg c14] at H
        have c14b0 : (yc == 3) = false:=beq_eq_false_iff_ne.mpr c14
        have c14b1 : (yc != 3) = true:=bne_iff_ne.mpr c14
        have H':=Aside0.mk H
        clear H
        have RG:=yB.out
        have RH:=yC.out
        have IL : w5.cell? ⟨xW,0,none⟩ = some (.int .i64 yc):=(ah xS.out 0).trans rfl
        have IQ : w5.cell? ⟨xW,1,none⟩ = some (.bool yA):=(ah xS.out 1).trans rfl
        have IU : w5.cell? ⟨xW,2,none⟩ = some (.int .i64 yw):=(ah xS.out 2).trans rfl
        have IV : w5.cell? ⟨xW,3,none⟩ = some (.string yx):=(ah xS.out 3).trans rfl
        have IW : w5.cell? ⟨xW,4,none⟩ = some (.slice zi yh.length yP):=(ah xS.out 4).trans rfl
        have IX : w5.cell? ⟨xW,5,none⟩ = some (.slice zm xY.length yQ):=(ah xS.out 5).trans rfl
        have IY:=aj xS.out 0
        have IZ:=aj xS.out 1
        have I4:=aj xS.out 2
        have I5:=aj xS.out 3
        have I6:=aj xS.out 4
        have I7:=aj xS.out 5
        have I8 : w5.cell? ⟨xX,0,none⟩ = some (.int .i64 yG):=(ah xU.out 0).trans rfl
        have I9 : w5.cell? ⟨xX,1,none⟩ = some (.bool yF):=(ah xU.out 1).trans rfl
        have Ja : w5.cell? ⟨xX,2,none⟩ = some (.int .i64 yD):=(ah xU.out 2).trans rfl
        have Jb : w5.cell? ⟨xX,3,none⟩ = some (.string yE):=(ah xU.out 3).trans rfl
        have Jc : w5.cell? ⟨xX,4,none⟩ = some (.slice zP yj.length zw):=(ah xU.out 4).trans rfl
        have Jd : w5.cell? ⟨xX,5,none⟩ = some (.slice Ao xZ.length zx):=(ah xU.out 5).trans rfl
        have Je:=aj xU.out 0
        have Jf:=aj xU.out 1
        have Jg:=aj xU.out 2
        have Jh:=aj xU.out 3
        have Ji:=aj xU.out 4
        have Jj:=aj xU.out 5
        go_wp2
        go_meet
        case rel=>exact ⟨_,(false),(by first|rfl|(simp;done)|(simp [*];done)),H',⟨by first|omega|exact Nat.le_refl _⟩,⟨by (with_reducible repeat (first|apply aA|apply aC|apply ay));exact xS.out⟩,⟨by (with_reducible repeat (first|apply aA|apply aC|apply ay));exact xU.out⟩,⟨by repeat (first|(with_reducible first|exact HB.out|apply av|apply ak|apply au|refine aD ?_ yH.out|refine aD ?_ yO.out)|exact HB.out)⟩⟩
      ·rw [if_neg c13] at H
       have c13b0 : (yw == yD) = false:=beq_eq_false_iff_ne.mpr c13
       have c13b1 : (yw != yD) = true:=bne_iff_ne.mpr c13
       have H':=Aside0.mk H
       clear H
       have RI:=yB.out
       have RJ:=yC.out
       have Jk : w5.cell? ⟨xW,0,none⟩ = some (.int .i64 yc):=(ah xS.out 0).trans rfl
       have Jl : w5.cell? ⟨xW,1,none⟩ = some (.bool yA):=(ah xS.out 1).trans rfl
       have Jm : w5.cell? ⟨xW,2,none⟩ = some (.int .i64 yw):=(ah xS.out 2).trans rfl
       have Jo : w5.cell? ⟨xW,3,none⟩ = some (.string yx):=(ah xS.out 3).trans rfl
       have Jp : w5.cell? ⟨xW,4,none⟩ = some (.slice zi yh.length yP):=(ah xS.out 4).trans rfl
       have Jq : w5.cell? ⟨xW,5,none⟩ = some (.slice zm xY.length yQ):=(ah xS.out 5).trans rfl
       have Jr:=aj xS.out 0
       have Js:=aj xS.out 1
       have Jt:=aj xS.out 2
       have Ju:=aj xS.out 3
       have Jv:=aj xS.out 4
       have Jw:=aj xS.out 5
       have Jy : w5.cell? ⟨xX,0,none⟩ = some (.int .i64 yG):=(ah xU.out 0).trans rfl
       have Jz : w5.cell? ⟨xX,1,none⟩ = some (.bool yF):=(ah xU.out 1).trans rfl
       have JA : w5.cell? ⟨xX,2,none⟩ = some (.int .i64 yD):=(ah xU.out 2).trans rfl
       have JB : w5.cell? ⟨xX,3,none⟩ = some (.string yE):=(ah xU.out 3).trans rfl
       have JC : w5.cell? ⟨xX,4,none⟩ = some (.slice zP yj.length zw):=(ah xU.out 4).trans rfl
       have JD : w5.cell? ⟨xX,5,none⟩ = some (.slice Ao xZ.length zx):=(ah xU.out 5).trans rfl
       have JE:=aj xU.out 0
       have JF:=aj xU.out 1
       have JG:=aj xU.out 2
       have JH:=aj xU.out 3
       have JI:=aj xU.out 4
       have JJ:=aj xU.out 5
       go_wp2
       go_meet
       case rel=>exact ⟨_,(true),(by first|rfl|(simp;done)|(simp [*];done)),H',⟨by first|omega|exact Nat.le_refl _⟩,⟨by (with_reducible repeat (first|apply aA|apply aC|apply ay));exact xS.out⟩,⟨by (with_reducible repeat (first|apply aA|apply aC|apply ay));exact xU.out⟩,⟨by repeat (first|(with_reducible first|exact HB.out|apply av|apply ak|apply au|refine aD ?_ yH.out|refine aD ?_ yO.out)|exact HB.out)⟩⟩
     ·rw [if_neg c12] at H
      have c12b0 : (yc == 2) = false:=beq_eq_false_iff_ne.mpr c12
      have c12b1 : (yc != 2) = true:=bne_iff_ne.mpr c12
      by_cases c24 : yc = 3
      ·rw [if_pos c24] at H
       have c24b0 : (yc == 3) = true:=beq_iff_eq.mpr c24
       have c24b1 : (yc != 3) = false:=bne_eq_false_iff_eq.mpr c24
       clear c24
       have H':=Aside0.mk H
       clear H
       have RL:=yB.out
       have RN:=yC.out
       have JK : w5.cell? ⟨xW,0,none⟩ = some (.int .i64 yc):=(ah xS.out 0).trans rfl
       have JL : w5.cell? ⟨xW,1,none⟩ = some (.bool yA):=(ah xS.out 1).trans rfl
       have JM : w5.cell? ⟨xW,2,none⟩ = some (.int .i64 yw):=(ah xS.out 2).trans rfl
       have JN : w5.cell? ⟨xW,3,none⟩ = some (.string yx):=(ah xS.out 3).trans rfl
       have JO : w5.cell? ⟨xW,4,none⟩ = some (.slice zi yh.length yP):=(ah xS.out 4).trans rfl
       have JQ : w5.cell? ⟨xW,5,none⟩ = some (.slice zm xY.length yQ):=(ah xS.out 5).trans rfl
       have JR:=aj xS.out 0
       have JU:=aj xS.out 1
       have JV:=aj xS.out 2
       have JW:=aj xS.out 3
       have JX:=aj xS.out 4
       have JY:=aj xS.out 5
       have JZ : w5.cell? ⟨xX,0,none⟩ = some (.int .i64 yG):=(ah xU.out 0).trans rfl
       have J2 : w5.cell? ⟨xX,1,none⟩ = some (.bool yF):=(ah xU.out 1).trans rfl
       have J3 : w5.cell? ⟨xX,2,none⟩ = some (.int .i64 yD):=(ah xU.out 2).trans rfl
       have J4 : w5.cell? ⟨xX,3,none⟩ = some (.string yE):=(ah xU.out 3).trans rfl
       have J5 : w5.cell? ⟨xX,4,none⟩ = some (.slice zP yj.length zw):=(ah xU.out 4).trans rfl
       have J6 : w5.cell? ⟨xX,5,none⟩ = some (.slice Ao xZ.length zx):=(ah xU.out 5).trans rfl
       have J7:=aj xU.out 0
       have J8:=aj xU.out 1
       have J9:=aj xU.out 2
       have Ka:=aj xU.out 3
       have Ke:=aj xU.out 4
       have Kg:=aj xU.out 5
       go_wp2
       go_meet
       case rel=>exact ⟨_,((yx.toList != yE.toList)),(by first|rfl|(simp;done)|(simp [*];done)),H',⟨by first|omega|exact Nat.le_refl _⟩,⟨by (with_reducible repeat (first|apply aA|apply aC|apply ay));exact xS.out⟩,⟨by (with_reducible repeat (first|apply aA|apply aC|apply ay));exact xU.out⟩,⟨by repeat (first|(with_reducible first|exact HB.out|apply av|apply ak|apply au|refine aD ?_ yH.out|refine aD ?_ yO.out)|exact HB.out)⟩⟩
      ·rw [if_neg c24] at H
       have c24b0 : (yc == 3) = false:=beq_eq_false_iff_ne.mpr c24
       have c24b1 : (yc != 3) = true:=bne_iff_ne.mpr c24
       have H':=Aside0.mk H
       clear H
       have RO:=yB.out
       have RP:=yC.out
       have Kh : w5.cell? ⟨xW,0,none⟩ = some (.int .i64 yc):=(ah xS.out 0).trans rfl
       have Ki : w5.cell? ⟨xW,1,none⟩ = some (.bool yA):=(ah xS.out 1).trans rfl
       have Kj : w5.cell? ⟨xW,2,none⟩ = some (.int .i64 yw):=(ah xS.out 2).trans rfl
       have Kk : w5.cell? ⟨xW,3,none⟩ = some (.string yx):=(ah xS.out 3).trans rfl
       have Kl : w5.cell? ⟨xW,4,none⟩ = some (.slice zi yh.length yP):=(ah xS.out 4).trans rfl
       have Km : w5.cell? ⟨xW,5,none⟩ = some (.slice zm xY.length yQ):=(ah xS.out 5).trans rfl
       have Kn:=aj xS.out 0
       have Ko:=aj xS.out 1
       have Kq:=aj xS.out 2
       have Kr:=aj xS.out 3
       have Kt:=aj xS.out 4
       have Ku:=aj xS.out 5
       have Kv : w5.cell? ⟨xX,0,none⟩ = some (.int .i64 yG):=(ah xU.out 0).trans rfl
       have Kw : w5.cell? ⟨xX,1,none⟩ = some (.bool yF):=(ah xU.out 1).trans rfl
       have Ky : w5.cell? ⟨xX,2,none⟩ = some (.int .i64 yD):=(ah xU.out 2).trans rfl
       have Kz : w5.cell? ⟨xX,3,none⟩ = some (.string yE):=(ah xU.out 3).trans rfl
       have KA : w5.cell? ⟨xX,4,none⟩ = some (.slice zP yj.length zw):=(ah xU.out 4).trans rfl
       have KC : w5.cell? ⟨xX,5,none⟩ = some (.slice Ao xZ.length zx):=(ah xU.out 5).trans rfl
       have KD:=aj xU.out 0
       have KE:=aj xU.out 1
       have KF:=aj xU.out 2
       have KG:=aj xU.out 3
       have KH:=aj xU.out 4
       have KI:=aj xU.out 5
       go_wp2
       go_meet
       case rel=>exact ⟨_,(false),(by first|rfl|(simp;done)|(simp [*];done)),H',⟨by first|omega|exact Nat.le_refl _⟩,⟨by (with_reducible repeat (first|apply aA|apply aC|apply ay));exact xS.out⟩,⟨by (with_reducible repeat (first|apply aA|apply aC|apply ay));exact xU.out⟩,⟨by repeat (first|(with_reducible first|exact HB.out|apply av|apply ak|apply au|refine aD ?_ yH.out|refine aD ?_ yO.out)|exact HB.out)⟩⟩
   ·rw [if_neg c7] at H
    have c7b0 : (yc == 1) = false:=beq_eq_false_iff_ne.mpr c7
    have c7b1 : (yc != 1) = true:=bne_iff_ne.mpr c7
    by_cases c31 : yc = 2
    ·rw [if_pos c31] at H
     have c31b0 : (yc == 2) = true:=beq_iff_eq.mpr c31
     have c31b1 : (yc != 2) = false:=bne_eq_false_iff_eq.mpr c31
     clear c31
     by_cases c32 : yw = yD
     ·rw [if_pos c32] at H
      have c32b0 : (yw == yD) = true:=beq_iff_eq.mpr c32
      have c32b1 : (yw != yD) = false:=bne_eq_false_iff_eq.mpr c32
      clear c32
      by_cases EO : yc = 3
      ·rw [if_pos EO] at H
       have c33b0 : (yc == 3) = true:=beq_iff_eq.mpr EO
       have c33b1 : (yc != 3) = false:=bne_eq_false_iff_eq.mpr EO
       clear EO
       have H':=Aside0.mk H
       clear H
       have RQ:=yB.out
       have RS:=yC.out
       have KJ : w5.cell? ⟨xW,0,none⟩ = some (.int .i64 yc):=(ah xS.out 0).trans rfl
       have KL : w5.cell? ⟨xW,1,none⟩ = some (.bool yA):=(ah xS.out 1).trans rfl
       have KM : w5.cell? ⟨xW,2,none⟩ = some (.int .i64 yw):=(ah xS.out 2).trans rfl
       have KN : w5.cell? ⟨xW,3,none⟩ = some (.string yx):=(ah xS.out 3).trans rfl
       have KO : w5.cell? ⟨xW,4,none⟩ = some (.slice zi yh.length yP):=(ah xS.out 4).trans rfl
       have KP : w5.cell? ⟨xW,5,none⟩ = some (.slice zm xY.length yQ):=(ah xS.out 5).trans rfl
       have KQ:=aj xS.out 0
       have KR:=aj xS.out 1
       have KS:=aj xS.out 2
       have KT:=aj xS.out 3
       have KU:=aj xS.out 4
       have KV:=aj xS.out 5
       have KW : w5.cell? ⟨xX,0,none⟩ = some (.int .i64 yG):=(ah xU.out 0).trans rfl
       have KX : w5.cell? ⟨xX,1,none⟩ = some (.bool yF):=(ah xU.out 1).trans rfl
       have KY : w5.cell? ⟨xX,2,none⟩ = some (.int .i64 yD):=(ah xU.out 2).trans rfl
       have KZ : w5.cell? ⟨xX,3,none⟩ = some (.string yE):=(ah xU.out 3).trans rfl
       have K3 : w5.cell? ⟨xX,4,none⟩ = some (.slice zP yj.length zw):=(ah xU.out 4).trans rfl
       have K4 : w5.cell? ⟨xX,5,none⟩ = some (.slice Ao xZ.length zx):=(ah xU.out 5).trans rfl
       have K5:=aj xU.out 0
       have K6:=aj xU.out 1
       have K7:=aj xU.out 2
       have K8:=aj xU.out 3
       have K9:=aj xU.out 4
       have La:=aj xU.out 5
       go_wp2
       go_meet
       case rel=>exact ⟨_,((yx.toList != yE.toList)),(by first|rfl|(simp;done)|(simp [*];done)),H',⟨by first|omega|exact Nat.le_refl _⟩,⟨by (with_reducible repeat (first|apply aA|apply aC|apply ay));exact xS.out⟩,⟨by (with_reducible repeat (first|apply aA|apply aC|apply ay));exact xU.out⟩,⟨by repeat (first|(with_reducible first|exact HB.out|apply av|apply ak|apply au|refine aD ?_ yH.out|refine aD ?_ yO.out)|exact HB.out)⟩⟩
      ·rw [if_neg EO] at H
       have c33b0 : (yc == 3) = false:=beq_eq_false_iff_ne.mpr EO
       have c33b1 : (yc != 3) = true:=bne_iff_ne.mpr EO
       have H':=Aside0.mk H
       clear H
       have RU:=yB.out
       have RV:=yC.out
       have Lb : w5.cell? ⟨xW,0,none⟩ = some (.int .i64 yc):=(ah xS.out 0).trans rfl
       have Lc : w5.cell? ⟨xW,1,none⟩ = some (.bool yA):=(ah xS.out 1).trans rfl
       have Ld : w5.cell? ⟨xW,2,none⟩ = some (.int .i64 yw):=(ah xS.out 2).trans rfl
       have Le : w5.cell? ⟨xW,3,none⟩ = some (.string yx):=(ah xS.out 3).trans rfl
       have Lf : w5.cell? ⟨xW,4,none⟩ = some (.slice zi yh.length yP):=(ah xS.out 4).trans rfl
       have Lg : w5.cell? ⟨xW,5,none⟩ = some (.slice zm xY.length yQ):=(ah xS.out 5).trans rfl
       have Lh:=aj xS.out 0
       have Li:=aj xS.out 1
       have Lj:=aj xS.out 2
       have Ll:=aj xS.out 3
       have Lm:=aj xS.out 4
       have Lp:=aj xS.out 5
       have Lr : w5.cell? ⟨xX,0,none⟩ = some (.int .i64 yG):=(ah xU.out 0).trans rfl
       have Ls : w5.cell? ⟨xX,1,none⟩ = some (.bool yF):=(ah xU.out 1).trans rfl
       have Lu : w5.cell? ⟨xX,2,none⟩ = some (.int .i64 yD):=(ah xU.out 2).trans rfl
       have Lv : w5.cell? ⟨xX,3,none⟩ = some (.string yE):=(ah xU.out 3).trans rfl
       have Lx : w5.cell? ⟨xX,4,none⟩ = some (.slice zP yj.length zw):=(ah xU.out 4).trans rfl
       have LA : w5.cell? ⟨xX,5,none⟩ = some (.slice Ao xZ.length zx):=(ah xU.out 5).trans rfl
       have LB:=aj xU.out 0
       have LC:=aj xU.out 1
       have LD:=aj xU.out 2
       have LG:=aj xU.out 3
       have LH:=aj xU.out 4
       have LJ:=aj xU.out 5
       go_wp2
       go_meet
       case rel=>exact ⟨_,(false),(by first|rfl|(simp;done)|(simp [*];done)),H',⟨by first|omega|exact Nat.le_refl _⟩,⟨by (with_reducible repeat (first|apply aA|apply aC|apply ay));exact xS.out⟩,⟨by (with_reducible repeat (first|apply aA|apply aC|apply ay));exact xU.out⟩,⟨by repeat (first|(with_reducible first|exact HB.out|apply av|apply ak|apply au|refine aD ?_ yH.out|refine aD ?_ yO.out)|exact HB.out)⟩⟩
     ·rw [if_neg c32] at H
      have c32b0 : (yw == yD) = false:=beq_eq_false_iff_ne.mpr c32
      have c32b1 : (yw != yD) = true:=bne_iff_ne.mpr c32
      have H':=Aside0.mk H
      clear H
      have RX:=yB.out
      have RY:=yC.out
      have LK : w5.cell? ⟨xW,0,none⟩ = some (.int .i64 yc):=(ah xS.out 0).trans rfl
      have LM : w5.cell? ⟨xW,1,none⟩ = some (.bool yA):=(ah xS.out 1).trans rfl
      have LP : w5.cell? ⟨xW,2,none⟩ = some (.int .i64 yw):=(ah xS.out 2).trans rfl
      have LQ : w5.cell? ⟨xW,3,none⟩ = some (.string yx):=(ah xS.out 3).trans rfl
      have LU : w5.cell? ⟨xW,4,none⟩ = some (.slice zi yh.length yP):=(ah xS.out 4).trans rfl
      have LV : w5.cell? ⟨xW,5,none⟩ = some (.slice zm xY.length yQ):=(ah xS.out 5).trans rfl
      have LW:=aj xS.out 0
      have LZ:=aj xS.out 1
      have L6:=aj xS.out 2
      have L8:=aj xS.out 3
      have L9:=aj xS.out 4
      have Ma:=aj xS.out 5
      have Mc : w5.cell? ⟨xX,0,none⟩ = some (.int .i64 yG):=(ah xU.out 0).trans rfl
      have Md : w5.cell? ⟨xX,1,none⟩ = some (.bool yF):=(ah xU.out 1).trans rfl
      have Me : w5.cell? ⟨xX,2,none⟩ = some (.int .i64 yD):=(ah xU.out 2).trans rfl
      have Mf : w5.cell? ⟨xX,3,none⟩ = some (.string yE):=(ah xU.out 3).trans rfl
      have Mg : w5.cell? ⟨xX,4,none⟩ = some (.slice zP yj.length zw):=(ah xU.out 4).trans rfl
      have Mh : w5.cell? ⟨xX,5,none⟩ = some (.slice Ao xZ.length zx):=(ah xU.out 5).trans rfl
      have Mi:=aj xU.out 0
      have Mj:=aj xU.out 1
      have Mk:=aj xU.out 2
      have Ml:=aj xU.out 3
      have Mq:=aj xU.out 4
      have Mr:=aj xU.out 5
      go_wp2
      go_meet
      case rel=>exact ⟨_,(true),(by first|rfl|(simp;done)|(simp [*];done)),H',⟨by first|omega|exact Nat.le_refl _⟩,⟨by (with_reducible repeat (first|apply aA|apply aC|apply ay));exact xS.out⟩,⟨by (with_reducible repeat (first|apply aA|apply aC|apply ay));exact xU.out⟩,⟨by repeat (first|(with_reducible first|exact HB.out|apply av|apply ak|apply au|refine aD ?_ yH.out|refine aD ?_ yO.out)|exact HB.out)⟩⟩
    ·rw [if_neg c31] at H
     have c31b0 : (yc == 2) = false:=beq_eq_false_iff_ne.mpr c31
     have c31b1 : (yc != 2) = true:=bne_iff_ne.mpr c31
     by_cases EP : yc = 3
     ·rw [if_pos EP] at H
      have c43b0 : (yc == 3) = true:=beq_iff_eq.mpr EP
      have c43b1 : (yc != 3) = false:=bne_eq_false_iff_eq.mpr EP
      clear EP
      have H':=Aside0.mk H
      clear H
      have RZ:=yB.out
      have R3:=yC.out
      have Ms : w5.cell? ⟨xW,0,none⟩ = some (.int .i64 yc):=(ah xS.out 0).trans rfl
      have Mt : w5.cell? ⟨xW,1,none⟩ = some (.bool yA):=(ah xS.out 1).trans rfl
      have Mv : w5.cell? ⟨xW,2,none⟩ = some (.int .i64 yw):=(ah xS.out 2).trans rfl
      have Mw : w5.cell? ⟨xW,3,none⟩ = some (.string yx):=(ah xS.out 3).trans rfl
      have Mx : w5.cell? ⟨xW,4,none⟩ = some (.slice zi yh.length yP):=(ah xS.out 4).trans rfl
      have MB : w5.cell? ⟨xW,5,none⟩ = some (.slice zm xY.length yQ):=(ah xS.out 5).trans rfl
      have MC:=aj xS.out 0
      have ME:=aj xS.out 1
      have MF:=aj xS.out 2
      have MG:=aj xS.out 3
      have MH:=aj xS.out 4
      have MI:=aj xS.out 5
      have MJ : w5.cell? ⟨xX,0,none⟩ = some (.int .i64 yG):=(ah xU.out 0).trans rfl
      have MK : w5.cell? ⟨xX,1,none⟩ = some (.bool yF):=(ah xU.out 1).trans rfl
      have ML : w5.cell? ⟨xX,2,none⟩ = some (.int .i64 yD):=(ah xU.out 2).trans rfl
      have MN : w5.cell? ⟨xX,3,none⟩ = some (.string yE):=(ah xU.out 3).trans rfl
      have MO : w5.cell? ⟨xX,4,none⟩ = some (.slice zP yj.length zw):=(ah xU.out 4).trans rfl
      have MP : w5.cell? ⟨xX,5,none⟩ = some (.slice Ao xZ.length zx):=(ah xU.out 5).trans rfl
      have MQ:=aj xU.out 0
      have MR:=aj xU.out 1
      have MS:=aj xU.out 2
      have MU:=aj xU.out 3
      have MV:=aj xU.out 4
      have MW:=aj xU.out 5
      go_wp2
      go_meet
      case rel=>exact ⟨_,((yx.toList != yE.toList)),(by first|rfl|(simp;done)|(simp [*];done)),H',⟨by first|omega|exact Nat.le_refl _⟩,⟨by (with_reducible repeat (first|apply aA|apply aC|apply ay));exact xS.out⟩,⟨by (with_reducible repeat (first|apply aA|apply aC|apply ay));exact xU.out⟩,⟨by repeat (first|(with_reducible first|exact HB.out|apply av|apply ak|apply au|refine aD ?_ yH.out|refine aD ?_ yO.out)|exact HB.out)⟩⟩
     ·rw [if_neg EP] at H
      have c43b0 : (yc == 3) = false:=beq_eq_false_iff_ne.mpr EP
      have c43b1 : (yc != 3) = true:=bne_iff_ne.mpr EP
      have H':=Aside0.mk H
      clear H
      have R4:=yB.out
      have R5:=yC.out
      have MX : w5.cell? ⟨xW,0,none⟩ = some (.int .i64 yc):=(ah xS.out 0).trans rfl
      have MZ : w5.cell? ⟨xW,1,none⟩ = some (.bool yA):=(ah xS.out 1).trans rfl
      have M0 : w5.cell? ⟨xW,2,none⟩ = some (.int .i64 yw):=(ah xS.out 2).trans rfl
      have M4 : w5.cell? ⟨xW,3,none⟩ = some (.string yx):=(ah xS.out 3).trans rfl
      have M5 : w5.cell? ⟨xW,4,none⟩ = some (.slice zi yh.length yP):=(ah xS.out 4).trans rfl
      have M6 : w5.cell? ⟨xW,5,none⟩ = some (.slice zm xY.length yQ):=(ah xS.out 5).trans rfl
      have M7:=aj xS.out 0
      have M8:=aj xS.out 1
      have M9:=aj xS.out 2
      have Na:=aj xS.out 3
      have Nb:=aj xS.out 4
      have Nc:=aj xS.out 5
      have Nf : w5.cell? ⟨xX,0,none⟩ = some (.int .i64 yG):=(ah xU.out 0).trans rfl
      have Ng : w5.cell? ⟨xX,1,none⟩ = some (.bool yF):=(ah xU.out 1).trans rfl
      have Nh : w5.cell? ⟨xX,2,none⟩ = some (.int .i64 yD):=(ah xU.out 2).trans rfl
      have Nk : w5.cell? ⟨xX,3,none⟩ = some (.string yE):=(ah xU.out 3).trans rfl
      have Nl : w5.cell? ⟨xX,4,none⟩ = some (.slice zP yj.length zw):=(ah xU.out 4).trans rfl
      have Nn : w5.cell? ⟨xX,5,none⟩ = some (.slice Ao xZ.length zx):=(ah xU.out 5).trans rfl
      have Np:=aj xU.out 0
      have Nq:=aj xU.out 1
      have Nr:=aj xU.out 2
      have Ns:=aj xU.out 3
      have Nt:=aj xU.out 4
      have Nu:=aj xU.out 5
      go_wp2
      go_meet
      case rel=>exact ⟨_,(false),(by first|rfl|(simp;done)|(simp [*];done)),H',⟨by first|omega|exact Nat.le_refl _⟩,⟨by (with_reducible repeat (first|apply aA|apply aC|apply ay));exact xS.out⟩,⟨by (with_reducible repeat (first|apply aA|apply aC|apply ay));exact xU.out⟩,⟨by repeat (first|(with_reducible first|exact HB.out|apply av|apply ak|apply au|refine aD ?_ yH.out|refine aD ?_ yO.out)|exact HB.out)⟩⟩
  ·rw [if_neg c6] at H
   have c6b0 : (yc == yG) = false:=beq_eq_false_iff_ne.mpr c6
   have c6b1 : (yc != yG) = true:=bne_iff_ne.mpr c6
   (first|rw [c6b0]|(simp only [bA,bB];rw [c6b0])|skip)
   have H':=Aside0.mk H
   clear H
   have R6:=yB.out
   have R7:=yC.out
   have Nv : w5.cell? ⟨xW,0,none⟩ = some (.int .i64 yc):=(ah xS.out 0).trans rfl
   have Nw : w5.cell? ⟨xW,1,none⟩ = some (.bool yA):=(ah xS.out 1).trans rfl
   have Ny : w5.cell? ⟨xW,2,none⟩ = some (.int .i64 yw):=(ah xS.out 2).trans rfl
   have Nz : w5.cell? ⟨xW,3,none⟩ = some (.string yx):=(ah xS.out 3).trans rfl
   have NC : w5.cell? ⟨xW,4,none⟩ = some (.slice zi yh.length yP):=(ah xS.out 4).trans rfl
   have ND : w5.cell? ⟨xW,5,none⟩ = some (.slice zm xY.length yQ):=(ah xS.out 5).trans rfl
   have NG:=aj xS.out 0
   have NH:=aj xS.out 1
   have NI:=aj xS.out 2
   have NJ:=aj xS.out 3
   have NK:=aj xS.out 4
   have NM:=aj xS.out 5
   have NP : w5.cell? ⟨xX,0,none⟩ = some (.int .i64 yG):=(ah xU.out 0).trans rfl
   have NQ : w5.cell? ⟨xX,1,none⟩ = some (.bool yF):=(ah xU.out 1).trans rfl
   have NR : w5.cell? ⟨xX,2,none⟩ = some (.int .i64 yD):=(ah xU.out 2).trans rfl
   have NS : w5.cell? ⟨xX,3,none⟩ = some (.string yE):=(ah xU.out 3).trans rfl
   have NT : w5.cell? ⟨xX,4,none⟩ = some (.slice zP yj.length zw):=(ah xU.out 4).trans rfl
   have NU : w5.cell? ⟨xX,5,none⟩ = some (.slice Ao xZ.length zx):=(ah xU.out 5).trans rfl
   have NV:=aj xU.out 0
   have NW:=aj xU.out 1
   have NY:=aj xU.out 2
   have NZ:=aj xU.out 3
   have N7:=aj xU.out 4
   have N8:=aj xU.out 5
   go_wp2
   go_meet
   case rel=>exact ⟨_,(true),(by first|rfl|(simp;done)|(simp [*];done)),H',⟨by first|omega|exact Nat.le_refl _⟩,⟨by (with_reducible repeat (first|apply aA|apply aC|apply ay));exact xS.out⟩,⟨by (with_reducible repeat (first|apply aA|apply aC|apply ay));exact xU.out⟩,⟨by repeat (first|(with_reducible first|exact HB.out|apply av|apply ak|apply au|refine aD ?_ yH.out|refine aD ?_ yO.out)|exact HB.out)⟩⟩
 case rest =>
  clear Rl
  obtain ⟨kq,El,rfl,HA,HJ2,xS,xU,HB⟩:=hcut
  cases kq with
  | zero=>exact absurd HA.out (by simp [aJ.j0])
  | succ Fq =>
   have H:=HA.out
   clear HA
   simp only [aJ.j0] at H
   by_cases c53 : El = true
   ·subst c53
    have H1 : (some false) = some r:=by rw [if_pos rfl] at H;exact H
    clear H
    have H:=H1
    clear H1
    obtain rfl:=Option.some.inj H
    go_wp2
    go_ret
    exact ⟨by first|rfl|(simp [bg,bn] <;> rfl)|(simp [*,bg,bn] <;> rfl),by repeat (first|(with_reducible first|exact HB.out|apply av|apply ak|apply au|refine aD ?_ yH.out|refine aD ?_ yO.out)|exact HB.out)⟩
   ·replace c53:=Bool.eq_false_iff.mpr c53
    subst c53
    have H1 : (if yc = 4 then (if (yh.length : Int) = (yj.length : Int) then (aJ.l0 Fq 0 yc yA yw yx yh xY yG yF yD yE yj xZ) else (some false)) else (aJ.j2 Fq yc yA yw yx yh xY yG yF yD yE yj xZ)) = some r:=by rw [if_neg (show ¬ (false = true) by decide)] at H;exact H
    clear H
    have H:=H1
    clear H1
    have ER:=Aside0.mk H
    clear H
    have R8:=yB.out
    have R9:=yC.out
    have N9 : wc.cell? ⟨xW,0,none⟩ = some (.int .i64 yc):=(ah xS.out 0).trans rfl
    have Oa : wc.cell? ⟨xW,1,none⟩ = some (.bool yA):=(ah xS.out 1).trans rfl
    have Ob : wc.cell? ⟨xW,2,none⟩ = some (.int .i64 yw):=(ah xS.out 2).trans rfl
    have Oc : wc.cell? ⟨xW,3,none⟩ = some (.string yx):=(ah xS.out 3).trans rfl
    have Od : wc.cell? ⟨xW,4,none⟩ = some (.slice zi yh.length yP):=(ah xS.out 4).trans rfl
    have Oe : wc.cell? ⟨xW,5,none⟩ = some (.slice zm xY.length yQ):=(ah xS.out 5).trans rfl
    have Og:=aj xS.out 0
    have Oh:=aj xS.out 1
    have Oi:=aj xS.out 2
    have Oj:=aj xS.out 3
    have Ol:=aj xS.out 4
    have Om:=aj xS.out 5
    go_upto_if 50 with (fail)
    go_cut [] (fun wc=>∃ (kq : Nat),Aside0 (aJ.j2 kq yc yA yw yx yh xY yG yF yD yE yj xZ = some r) ∧ Aside0 (kq ≤ Fq) ∧ Aside0 (wc.heap[xW]? = some (.cells #[.int .i64 yc,.bool yA,.int .i64 yw,.string yx,(.slice zi yh.length yP),(.slice zm xY.length yQ)] 33 (0,0))) ∧ Aside0 (wc.heap[xX]? = some (.cells #[.int .i64 yG,.bool yF,.int .i64 yD,.string yE,(.slice zP yj.length zw),(.slice Ao xZ.length zx)] 33 (0,0))) ∧ Aside0 (Below w.heap.size w wc))
    case first =>
     have H:=ER.out
     clear ER
     by_cases ES : yc = 4
     ·rw [if_pos ES] at H
      have c57b0 : (yc == 4) = true:=beq_iff_eq.mpr ES
      have c57b1 : (yc != 4) = false:=bne_eq_false_iff_eq.mpr ES
      clear ES
      (first|rw [c57b0]|(simp only [bA,bB];rw [c57b0])|skip)
      by_cases ED : (yh.length : Int) = (yj.length : Int)
      ·rw [if_pos ED] at H
       have c58b0 : ((yh.length : Int) == (yj.length : Int)) = true:=beq_iff_eq.mpr ED
       have c58b1 : ((yh.length : Int) != (yj.length : Int)) = false:=bne_eq_false_iff_eq.mpr ED
       have c58b2 : (yh.length == yj.length) = true:=by first|simpa using ED|(simp at ED ⊢;omega)
       clear ED
       have H':=Aside0.mk H
       clear H
       have Sb:=yB.out
       have Sc:=yC.out
       have Oo : wc.cell? ⟨xW,0,none⟩ = some (.int .i64 yc):=(ah xS.out 0).trans rfl
       have Oq : wc.cell? ⟨xW,1,none⟩ = some (.bool yA):=(ah xS.out 1).trans rfl
       have Ot : wc.cell? ⟨xW,2,none⟩ = some (.int .i64 yw):=(ah xS.out 2).trans rfl
       have Ou : wc.cell? ⟨xW,3,none⟩ = some (.string yx):=(ah xS.out 3).trans rfl
       have Ov : wc.cell? ⟨xW,4,none⟩ = some (.slice zi yh.length yP):=(ah xS.out 4).trans rfl
       have Ow : wc.cell? ⟨xW,5,none⟩ = some (.slice zm xY.length yQ):=(ah xS.out 5).trans rfl
       have Ox:=aj xS.out 0
       have Oy:=aj xS.out 1
       have Oz:=aj xS.out 2
       have OA:=aj xS.out 3
       have OB:=aj xS.out 4
       have OC:=aj xS.out 5
       have OD : wc.cell? ⟨xX,0,none⟩ = some (.int .i64 yG):=(ah xU.out 0).trans rfl
       have OE : wc.cell? ⟨xX,1,none⟩ = some (.bool yF):=(ah xU.out 1).trans rfl
       have OG : wc.cell? ⟨xX,2,none⟩ = some (.int .i64 yD):=(ah xU.out 2).trans rfl
       have OH : wc.cell? ⟨xX,3,none⟩ = some (.string yE):=(ah xU.out 3).trans rfl
       have OI : wc.cell? ⟨xX,4,none⟩ = some (.slice zP yj.length zw):=(ah xU.out 4).trans rfl
       have OJ : wc.cell? ⟨xX,5,none⟩ = some (.slice Ao xZ.length zx):=(ah xU.out 5).trans rfl
       have OL:=aj xU.out 0
       have OM:=aj xU.out 1
       have OO:=aj xU.out 2
       have OP:=aj xU.out 3
       have OQ:=aj xU.out 4
       have OT:=aj xU.out 5
       go_wp2
       go_loopg [5] Fq (fun kq v5 w'=>∃ (yg : Int),v5 = .int .i64 yg ∧ Aside0 (aJ.l0 kq yg yc yA yw yx yh xY yG yF yD yE yj xZ = some r) ∧ Aside0 (kq ≤ Fq) ∧ Aside0 (w'.heap[xW]? = some (.cells #[.int .i64 yc,.bool yA,.int .i64 yw,.string yx,(.slice zi yh.length yP),(.slice zm xY.length yQ)] 33 (0,0))) ∧ Aside0 (w'.heap[xX]? = some (.cells #[.int .i64 yG,.bool yF,.int .i64 yD,.string yE,(.slice zP yj.length zw),(.slice Ao xZ.length zx)] 33 (0,0))) ∧ Aside0 (Below w.heap.size w w'))
       case atStart=>exact ⟨(0),(by first|rfl|(simp;done)|(simp [*];done)),H',⟨Nat.le_refl _⟩,⟨by (with_reducible repeat (first|apply aA|apply aC|apply ay));exact xS.out⟩,⟨by (with_reducible repeat (first|apply aA|apply aC|apply ay));exact xU.out⟩,⟨by repeat (first|(with_reducible first|exact HB.out|apply av|apply ak|apply au|refine aD ?_ yH.out|refine aD ?_ yO.out)|exact HB.out)⟩⟩
       case round =>
        clear H'
        obtain ⟨yg,rfl,HA,Fu,xS,xU,HB⟩:=hrel
        cases gk with
        | zero=>exact absurd HA.out (by simp [aJ.l0])
        | succ k2 =>
         have H:=HA.out
         clear HA
         simp only [aJ.l0] at H
         by_cases Fj : yg < (yh.length : Int)
         ·rw [if_pos Fj] at H
          have c62b0 : decide (yg < (yh.length : Int)) = true:=decide_eq_true Fj
          clear Fj
          by_cases OU : 0 ≤ yg
          ·rw [if_pos OU] at H
           have c63b0 : decide (0 ≤ yg) = true:=decide_eq_true OU
           clear OU
           by_cases c64 : yg < (yj.length : Int)
           ·rw [if_pos c64] at H
            have c64b0 : decide (yg < (yj.length : Int)) = true:=decide_eq_true c64
            clear c64
            replace H:=Option.bind_eq_some_iff.mp H
            obtain ⟨EK,Fv,H⟩:=H
            replace H : (if EK = true then (aJ.l0 k2 (wrap64 (yg + 1)) yc yA yw yx yh xY yG yF yD yE yj xZ) else (some false)) = some r:=H
            have Sd:=Aside0.mk Fv
            clear Fv
            by_cases OV : EK = true
            ·subst OV
             have H1 : (aJ.l0 k2 (wrap64 (yg + 1)) yc yA yw yx yh xY yG yF yD yE yj xZ) = some r:=by rw [if_pos rfl] at H;exact H
             clear H
             have H:=H1
             clear H1
             have H':=Aside0.mk H
             clear H
             have Sg:=yB.out
             have Si:=yC.out
             have OW : wr.cell? ⟨xW,0,none⟩ = some (.int .i64 yc):=(ah xS.out 0).trans rfl
             have OX : wr.cell? ⟨xW,1,none⟩ = some (.bool yA):=(ah xS.out 1).trans rfl
             have OY : wr.cell? ⟨xW,2,none⟩ = some (.int .i64 yw):=(ah xS.out 2).trans rfl
             have OZ : wr.cell? ⟨xW,3,none⟩ = some (.string yx):=(ah xS.out 3).trans rfl
             have O1 : wr.cell? ⟨xW,4,none⟩ = some (.slice zi yh.length yP):=(ah xS.out 4).trans rfl
             have O4 : wr.cell? ⟨xW,5,none⟩ = some (.slice zm xY.length yQ):=(ah xS.out 5).trans rfl
             have O5:=aj xS.out 0
             have O6:=aj xS.out 1
             have O7:=aj xS.out 2
             have O8:=aj xS.out 3
             have O9:=aj xS.out 4
             have Pb:=aj xS.out 5
             try go_wp2
             have BQ:=Aside0.mk (aC xS.out)
             have BR:=Aside0.mk (aC xU.out)
             have BS:=Aside0.mk (au HB.out)
             clear xS
             clear xU
             clear HB
             have xS:=BQ
             have xU:=BR
             have HB:=BS
             clear BQ BR BS
             have DR : 0 ≤ (yg : Int):=of_decide_eq_true (by first|(with_reducible assumption)|assumption)
             have DT : yg < (yh.length : Int):=of_decide_eq_true (by first|(with_reducible assumption)|assumption)
             obtain ⟨zk,CX,CY,CZ,C8,ET,zQ,zR,zS,zT,zU,zV,BU,BZ,Ca,Cb⟩:=jD EM.out yg DR DT
             have AJ:=zV
             have AL:=zU
             have AO:=zT
             have AP:=zS
             have AQ:=zR
             have AU:=zQ
             cases ET
             replace zQ:=(HB.out.cell (World.block_lt_of_cell? w _ zQ)).trans zQ
             replace zR:=(HB.out.cell (World.block_lt_of_cell? w _ zR)).trans zR
             replace zS:=(HB.out.cell (World.block_lt_of_cell? w _ zS)).trans zS
             replace zT:=(HB.out.cell (World.block_lt_of_cell? w _ zT)).trans zT
             replace zU:=(HB.out.cell (World.block_lt_of_cell? w _ zU)).trans zU
             replace zV:=(HB.out.cell (World.block_lt_of_cell? w _ zV)).trans zV
             have Cc:=Aside0.mk BZ
             have Dw:=Aside0.mk BU
             clear BZ BU
             have Ce:=Aside0.mk Cb
             have Dx:=Aside0.mk Ca
             clear Cb Ca
             replace DR:=eq_true DR
             replace DT:=eq_true DT
             have DU : 0 ≤ (yg : Int):=of_decide_eq_true (by first|(with_reducible assumption)|assumption)
             have DV : yg < (yj.length : Int):=of_decide_eq_true (by first|(with_reducible assumption)|assumption)
             obtain ⟨zl,C9,Da,Db,Dc,EU,zW,zX,zY,zZ,z8,Ac,Cg,Ch,Ci,Cj⟩:=jD EN.out yg DU DV
             have AV:=Ac
             have AX:=z8
             have AY:=zZ
             have AZ:=zY
             have Ba:=zX
             have Bb:=zW
             cases EU
             replace zW:=(HB.out.cell (World.block_lt_of_cell? w _ zW)).trans zW
             replace zX:=(HB.out.cell (World.block_lt_of_cell? w _ zX)).trans zX
             replace zY:=(HB.out.cell (World.block_lt_of_cell? w _ zY)).trans zY
             replace zZ:=(HB.out.cell (World.block_lt_of_cell? w _ zZ)).trans zZ
             replace z8:=(HB.out.cell (World.block_lt_of_cell? w _ z8)).trans z8
             replace Ac:=(HB.out.cell (World.block_lt_of_cell? w _ Ac)).trans Ac
             have Ck:=Aside0.mk Ch
             have Dy:=Aside0.mk Cg
             clear Ch Cg
             have Cm:=Aside0.mk Cj
             have Dz:=Aside0.mk Ci
             clear Cj Ci
             replace DU:=eq_true DU
             replace DV:=eq_true DV
             refine iM (n:=12) (S:=fun w'=>w'.cell? ⟨xW,0,none⟩ = some (.int .i64 yc) ∧ w'.cell? ⟨xW,1,none⟩ = some (.bool yA) ∧ w'.cell? ⟨xW,2,none⟩ = some (.int .i64 yw) ∧ w'.cell? ⟨xW,3,none⟩ = some (.string yx) ∧ w'.cell? ⟨xW,4,none⟩ = some (.slice (some zk) yh.length yP) ∧ w'.cell? ⟨xW,5,none⟩ = some (.slice zm xY.length yQ) ∧ w'.cell? ⟨xX,0,none⟩ = some (.int .i64 yG) ∧ w'.cell? ⟨xX,1,none⟩ = some (.bool yF) ∧ w'.cell? ⟨xX,2,none⟩ = some (.int .i64 yD) ∧ w'.cell? ⟨xX,3,none⟩ = some (.string yE) ∧ w'.cell? ⟨xX,4,none⟩ = some (.slice (some zl) yj.length zw) ∧ w'.cell? ⟨xX,5,none⟩ = some (.slice Ao xZ.length zx) ∧ w'.cell? (zk.add ((yg).toNat * 6)) = some (.int .i64 ((bD yh yg).f0)) ∧ w'.cell? ⟨(zk.add ((yg).toNat * 6)).block,(zk.add ((yg).toNat * 6)).off + 1,none⟩ = some (.bool ((bD yh yg).f1)) ∧ w'.cell? ⟨(zk.add ((yg).toNat * 6)).block,(zk.add ((yg).toNat * 6)).off + 2,none⟩ = some (.int .i64 ((bD yh yg).f2)) ∧ w'.cell? ⟨(zk.add ((yg).toNat * 6)).block,(zk.add ((yg).toNat * 6)).off + 3,none⟩ = some (.string ((bD yh yg).f3)) ∧ w'.cell? ⟨(zk.add ((yg).toNat * 6)).block,(zk.add ((yg).toNat * 6)).off + 4,none⟩ = some (.slice CX ((bD yh yg).f4).length CY) ∧ w'.cell? ⟨(zk.add ((yg).toNat * 6)).block,(zk.add ((yg).toNat * 6)).off + 5,none⟩ = some (.slice CZ ((bD yh yg).f5).length C8) ∧ w'.cell? (zl.add ((yg).toNat * 6)) = some (.int .i64 ((bD yj yg).f0)) ∧ w'.cell? ⟨(zl.add ((yg).toNat * 6)).block,(zl.add ((yg).toNat * 6)).off + 1,none⟩ = some (.bool ((bD yj yg).f1)) ∧ w'.cell? ⟨(zl.add ((yg).toNat * 6)).block,(zl.add ((yg).toNat * 6)).off + 2,none⟩ = some (.int .i64 ((bD yj yg).f2)) ∧ w'.cell? ⟨(zl.add ((yg).toNat * 6)).block,(zl.add ((yg).toNat * 6)).off + 3,none⟩ = some (.string ((bD yj yg).f3)) ∧ w'.cell? ⟨(zl.add ((yg).toNat * 6)).block,(zl.add ((yg).toNat * 6)).off + 4,none⟩ = some (.slice C9 ((bD yj yg).f4).length Da) ∧ w'.cell? ⟨(zl.add ((yg).toNat * 6)).block,(zl.add ((yg).toNat * 6)).off + 5,none⟩ = some (.slice Db ((bD yj yg).f5).length Dc)) (ds:=[]) #[false,false,false,false,false,false,false,false,false,false,false,false] (by kernel_rfl) rfl rfl ⟨(ah xS.out 0).trans rfl,(ah xS.out 1).trans rfl,(ah xS.out 2).trans rfl,(ah xS.out 3).trans rfl,(ah xS.out 4).trans rfl,(ah xS.out 5).trans rfl,(ah xU.out 0).trans rfl,(ah xU.out 1).trans rfl,(ah xU.out 2).trans rfl,(ah xU.out 3).trans rfl,(ah xU.out 4).trans rfl,(ah xU.out 5).trans rfl,((HB.out.cell (World.block_lt_of_cell? w _ AU)).trans AU),((HB.out.cell (World.block_lt_of_cell? w _ AQ)).trans AQ),((HB.out.cell (World.block_lt_of_cell? w _ AP)).trans AP),((HB.out.cell (World.block_lt_of_cell? w _ AO)).trans AO),((HB.out.cell (World.block_lt_of_cell? w _ AL)).trans AL),((HB.out.cell (World.block_lt_of_cell? w _ AJ)).trans AJ),((HB.out.cell (World.block_lt_of_cell? w _ Bb)).trans Bb),((HB.out.cell (World.block_lt_of_cell? w _ Ba)).trans Ba),((HB.out.cell (World.block_lt_of_cell? w _ AZ)).trans AZ),((HB.out.cell (World.block_lt_of_cell? w _ AY)).trans AY),((HB.out.cell (World.block_lt_of_cell? w _ AX)).trans AX),((HB.out.cell (World.block_lt_of_cell? w _ AV)).trans AV)⟩ (fun hHeld=>?_);refine fT aJ.wM aJ.uT (fun HT_ HW_=>?_)
             generalize wr.drew = SL at xS xU HB Cc Ce Ck Cm zQ zR zS zT zU zV zW zX zY zZ z8 Ac hHeld ⊢
             refine bR (i:=0) (N:=some 65) (v:=?_) (a':=?_) #[true,false,false,false,false,false,false,false,false,false,false,false] rfl rfl (bH HT_.out (by kernel_rfl)) (fun _ _ _ h=>h) (Or.inl ⟨by rfl,?_⟩) ?_ ?_
             rotate_left
             ·intro w'
              go_simp
              with_reducible rfl
             rotate_left
             ·simp only [Act.put,List.setIfInBounds_toArray,List.set_cons_zero,List.set_cons_succ,bA,bB]
              rfl
             refine bR (i:=2) (N:=some 67) (v:=?_) (a':=?_) #[true,false,true,false,false,false,false,false,false,false,false,false] rfl rfl (bH HT_.out (by kernel_rfl)) (fun _ _ _ h=>h) (Or.inl ⟨by rfl,?_⟩) ?_ ?_
             rotate_left
             ·intro w'
              go_simp
              with_reducible rfl
             rotate_left
             ·simp only [Act.put,List.setIfInBounds_toArray,List.set_cons_zero,List.set_cons_succ,bA,bB]
              rfl
             refine bR (i:=5) (N:=some 70) (v:=?_) (a':=?_) #[true,false,true,false,false,true,false,false,false,false,false,false] rfl rfl (bH HT_.out (by kernel_rfl)) (fun _ _ _ h=>h) (Or.inl ⟨by rfl,?_⟩) ?_ ?_
             rotate_left
             ·intro w'
              go_simp
              with_reducible rfl
             rotate_left
             ·simp only [Act.put,List.setIfInBounds_toArray,List.set_cons_zero,List.set_cons_succ,bA,bB]
              rfl
             refine bR (i:=7) (N:=some 72) (v:=?_) (a':=?_) #[true,false,true,false,false,true,false,true,false,false,false,false] rfl rfl (bH HT_.out (by kernel_rfl)) (fun _ _ _ h=>h) (Or.inl ⟨by rfl,?_⟩) ?_ ?_
             rotate_left
             ·intro w'
              go_simp
              with_reducible rfl
             rotate_left
             ·simp only [Act.put,List.setIfInBounds_toArray,List.set_cons_zero,List.set_cons_succ,bA,bB]
              rfl
             refine dG (i:=1) (N:=some 66) (v:=?_) (a':=?_) #[true,true,true,false,false,true,false,true,false,false,false,false] rfl rfl (cu HT_.out HW_.out (by kernel_rfl)) (fun _ _ _ h=>h) (Or.inl ⟨by rfl,?_⟩) hHeld ?_ ?_
             rotate_left
             ·rintro w' ⟨s0,s1,s2,s3,s4,s5,s6,s7,s8,s9,s10,s11,s12,s13,CO,s15,s16,CP,CQ,CS,s20,CU,CV,CW⟩
              go_simp
              with_reducible rfl
             rotate_left
             ·simp only [Act.put,List.setIfInBounds_toArray,List.set_cons_zero,List.set_cons_succ,bA,bB]
              rfl
             refine bR (i:=3) (N:=some 68) (v:=?_) (a':=?_) #[true,true,true,true,false,true,false,true,false,false,false,false] rfl rfl (bH HT_.out (by kernel_rfl)) (fun _ _ _ h=>h) (Or.inl ⟨by rfl,?_⟩) ?_ ?_
             rotate_left
             ·intro w'
              go_simp
              with_reducible rfl
             rotate_left
             ·simp only [Act.put,List.setIfInBounds_toArray,List.set_cons_zero,List.set_cons_succ,bA,bB]
              rfl
             refine dG (i:=4) (N:=some 69) (v:=?_) (a':=?_) #[true,true,true,true,true,true,false,true,false,false,false,false] rfl rfl (cu HT_.out HW_.out (by kernel_rfl)) (fun _ _ _ h=>h) (Or.inl ⟨by rfl,?_⟩) hHeld ?_ ?_
             rotate_left
             ·rintro w' ⟨s0,s1,s2,s3,s4,s5,s6,s7,s8,s9,s10,s11,s12,s13,CO,s15,s16,CP,CQ,CS,s20,CU,CV,CW⟩
              go_simp
              with_reducible rfl
             rotate_left
             ·simp only [Act.put,List.setIfInBounds_toArray,List.set_cons_zero,List.set_cons_succ,bA,bB]
              rfl
             refine dG (i:=6) (N:=some 71) (v:=?_) (a':=?_) #[true,true,true,true,true,true,true,true,false,false,false,false] rfl rfl (cu HT_.out HW_.out (by kernel_rfl)) (fun _ _ _ h=>h) (Or.inl ⟨by rfl,?_⟩) hHeld ?_ ?_
             rotate_left
             ·rintro w' ⟨s0,s1,s2,s3,s4,s5,s6,s7,s8,s9,s10,s11,s12,s13,CO,s15,s16,CP,CQ,CS,s20,CU,CV,CW⟩
              go_simp
              with_reducible rfl
             rotate_left
             ·simp only [Act.put,List.setIfInBounds_toArray,List.set_cons_zero,List.set_cons_succ,bA,bB]
              rfl
             refine bR (i:=8) (N:=some 73) (v:=?_) (a':=?_) #[true,true,true,true,true,true,true,true,true,false,false,false] rfl rfl (bH HT_.out (by kernel_rfl)) (fun _ _ _ h=>h) (Or.inl ⟨by rfl,?_⟩) ?_ ?_
             rotate_left
             ·intro w'
              go_simp
              with_reducible rfl
             rotate_left
             ·simp only [Act.put,List.setIfInBounds_toArray,List.set_cons_zero,List.set_cons_succ,bA,bB]
              rfl
             refine dG (i:=9) (N:=some 74) (v:=?_) (a':=?_) #[true,true,true,true,true,true,true,true,true,true,false,false] rfl rfl (cu HT_.out HW_.out (by kernel_rfl)) (fun _ _ _ h=>h) (Or.inl ⟨by rfl,?_⟩) hHeld ?_ ?_
             rotate_left
             ·rintro w' ⟨s0,s1,s2,s3,s4,s5,s6,s7,s8,s9,s10,s11,s12,s13,CO,s15,s16,CP,CQ,CS,s20,CU,CV,CW⟩
              go_simp
              with_reducible rfl
             rotate_left
             ·simp only [Act.put,List.setIfInBounds_toArray,List.set_cons_zero,List.set_cons_succ,bA,bB]
              rfl
             refine gL (i:=10) (N:=some 75) #[true,true,true,true,true,true,true,true,true,true,true,false] rfl rfl (dM HT_.out (by kernel_rfl)) (by decide) (fun K hK=>?_)
             refine iT Tryd.func13 (by kernel_rfl) rfl #[.agg #[.int .i64 ((bD yh yg).f0),.bool ((bD yh yg).f1),.int .i64 ((bD yh yg).f2),.string ((bD yh yg).f3),.slice CX ((bD yh yg).f4).length CY,.slice CZ ((bD yh yg).f5).length C8],.agg #[.int .i64 ((bD yj yg).f0),.bool ((bD yj yg).f1),.int .i64 ((bD yj yg).f2),.string ((bD yj yg).f3),.slice C9 ((bD yj yg).f4).length Da,.slice Db ((bD yj yg).f5).length Dc]] (by rfl) rfl rfl (by (try simp only [List.map_toArray,List.map_cons,List.map_nil]);first|done|rfl|(simp only [List.length_drop,List.length_take];rfl)) ?_
             with_reducible refine (ih k2 (by have:=HJ2.out;have:=Fu.out;omega) ((bD yh yg).f0) ((bD yh yg).f1) ((bD yh yg).f2) ((bD yh yg).f3) _ _ ((bD yh yg).f4) _ _ ((bD yh yg).f5) ((bD yj yg).f0) ((bD yj yg).f1) ((bD yj yg).f2) ((bD yj yg).f3) _ _ ((bD yj yg).f4) _ _ ((bD yj yg).f5) true _ ?Df ?Dh ?Di ?Dj ?Dk ?Dl ?Dm ?Dn Sd.out).mono ?_
             (case Df=>repeat (first|exact (Kd.bO Cc.out HB.out)|(with_reducible refine Kd.bJ ?_ _)|(with_reducible refine Kd.bL ?_ _)|(with_reducible refine Kd.bS ?_)))
             (case Dh=>exact Dw.out)
             (case Di=>repeat (first|exact (Kd.bO Ce.out HB.out)|(with_reducible refine Kd.bJ ?_ _)|(with_reducible refine Kd.bL ?_ _)|(with_reducible refine Kd.bS ?_)))
             (case Dj=>exact Dx.out)
             (case Dk=>repeat (first|exact (Kd.bO Ck.out HB.out)|(with_reducible refine Kd.bJ ?_ _)|(with_reducible refine Kd.bL ?_ _)|(with_reducible refine Kd.bS ?_)))
             (case Dl=>exact Dy.out)
             (case Dm=>repeat (first|exact (Kd.bO Cm.out HB.out)|(with_reducible refine Kd.bJ ?_ _)|(with_reducible refine Kd.bL ?_ _)|(with_reducible refine Kd.bS ?_)))
             (case Dn=>exact Dz.out)
             rintro e SN ⟨rfl,hb⟩
             refine ⟨_,rfl,?_⟩
             have BQ:=Aside0.mk (aU (g:=xW) (o:=.cells #[.int .i64 yc,.bool yA,.int .i64 yw,.string yx,.slice (some zk) yh.length yP,.slice zm xY.length yQ] 33 (0,0)) (bk_ xS.out) hb)
             have BR:=Aside0.mk (aU (g:=xX) (o:=.cells #[.int .i64 yG,.bool yF,.int .i64 yD,.string yE,.slice (some zl) yj.length zw,.slice Ao xZ.length zx] 33 (0,0)) (bk_ xU.out) hb)
             have BS:=Aside0.mk (aT (by repeat (first|(with_reducible first|exact HB.out|apply av|apply ak|apply au|refine aD ?_ yH.out|refine aD ?_ yO.out)|exact HB.out)) hb)
             clear xS
             clear xU
             clear HB
             have xS:=BQ
             have xU:=BR
             have HB:=BS
             clear BQ BR BS
             (try clear hb)
             (try clear hb2)
             (try clear hk)
             (try clear hi)
             refine hK.out _ _ ⟨(ah xS.out 0).trans rfl,(ah xS.out 1).trans rfl,(ah xS.out 2).trans rfl,(ah xS.out 3).trans rfl,(ah xS.out 4).trans rfl,(ah xS.out 5).trans rfl,(ah xU.out 0).trans rfl,(ah xU.out 1).trans rfl,(ah xU.out 2).trans rfl,(ah xU.out 3).trans rfl,(ah xU.out 4).trans rfl,(ah xU.out 5).trans rfl,((HB.out.cell (World.block_lt_of_cell? w _ AU)).trans AU),((HB.out.cell (World.block_lt_of_cell? w _ AQ)).trans AQ),((HB.out.cell (World.block_lt_of_cell? w _ AP)).trans AP),((HB.out.cell (World.block_lt_of_cell? w _ AO)).trans AO),((HB.out.cell (World.block_lt_of_cell? w _ AL)).trans AL),((HB.out.cell (World.block_lt_of_cell? w _ AJ)).trans AJ),((HB.out.cell (World.block_lt_of_cell? w _ Bb)).trans Bb),((HB.out.cell (World.block_lt_of_cell? w _ Ba)).trans Ba),((HB.out.cell (World.block_lt_of_cell? w _ AZ)).trans AZ),((HB.out.cell (World.block_lt_of_cell? w _ AY)).trans AY),((HB.out.cell (World.block_lt_of_cell? w _ AX)).trans AX),((HB.out.cell (World.block_lt_of_cell? w _ AV)).trans AV)⟩ (fun hHeld=>?_)
             clear hK K
             refine dL (a':=?_) ?_ ?_
             rotate_left
             ·show Act.put _ (some 75) _ = _
              simp only [Act.put,List.setIfInBounds_toArray,List.set_cons_zero,List.set_cons_succ,bA,bB]
              rfl
             refine bR (i:=11) (N:=some 76) (v:=?_) (a':=?_) #[true,true,true,true,true,true,true,true,true,true,true,true] rfl rfl (bH HT_.out (by kernel_rfl)) (fun _ _ _ h=>h) (Or.inl ⟨by rfl,?_⟩) ?_ ?_
             rotate_left
             ·intro w'
              go_simp
              with_reducible rfl
             rotate_left
             ·simp only [Act.put,List.setIfInBounds_toArray,List.set_cons_zero,List.set_cons_succ,bA,bB]
              rfl
             refine jm (iB HT_.out (by kernel_rfl)) ?_
             try go_wp2
             go_roundg k2
             case measure=>have:=HJ2.out;have:=Fu.out;omega
             case rel=>exact ⟨(wrap64 (yg + 1)),(by first|rfl|(simp;done)|(simp [*];done)),H',⟨by have:=HJ2.out;have:=Fu.out;omega⟩,⟨by (with_reducible repeat (first|apply aA|apply aC|apply ay));exact xS.out⟩,⟨by (with_reducible repeat (first|apply aA|apply aC|apply ay));exact xU.out⟩,⟨by repeat (first|(with_reducible first|exact HB.out|apply av|apply ak|apply au|refine aD ?_ yH.out|refine aD ?_ yO.out)|exact HB.out)⟩⟩
            ·replace OV:=Bool.eq_false_iff.mpr OV
             subst OV
             have H1 : (some false) = some r:=by rw [if_neg (show ¬ (false = true) by decide)] at H;exact H
             clear H
             have H:=H1
             clear H1
             obtain rfl:=Option.some.inj H
             have Sj:=yB.out
             have Sk:=yC.out
             have Pf : wr.cell? ⟨xW,0,none⟩ = some (.int .i64 yc):=(ah xS.out 0).trans rfl
             have Pg : wr.cell? ⟨xW,1,none⟩ = some (.bool yA):=(ah xS.out 1).trans rfl
             have Ph : wr.cell? ⟨xW,2,none⟩ = some (.int .i64 yw):=(ah xS.out 2).trans rfl
             have Pj : wr.cell? ⟨xW,3,none⟩ = some (.string yx):=(ah xS.out 3).trans rfl
             have Pk : wr.cell? ⟨xW,4,none⟩ = some (.slice zi yh.length yP):=(ah xS.out 4).trans rfl
             have Pm : wr.cell? ⟨xW,5,none⟩ = some (.slice zm xY.length yQ):=(ah xS.out 5).trans rfl
             have Pn:=aj xS.out 0
             have Po:=aj xS.out 1
             have Pp:=aj xS.out 2
             have Pq:=aj xS.out 3
             have Pt:=aj xS.out 4
             have Pv:=aj xS.out 5
             try go_wp2
             have BQ:=Aside0.mk (aC xS.out)
             have BR:=Aside0.mk (aC xU.out)
             have BS:=Aside0.mk (au HB.out)
             clear xS
             clear xU
             clear HB
             have xS:=BQ
             have xU:=BR
             have HB:=BS
             clear BQ BR BS
             have DR : 0 ≤ (yg : Int):=of_decide_eq_true (by first|(with_reducible assumption)|assumption)
             have DT : yg < (yh.length : Int):=of_decide_eq_true (by first|(with_reducible assumption)|assumption)
             obtain ⟨zk,CX,CY,CZ,C8,ET,zQ,zR,zS,zT,zU,zV,BU,BZ,Ca,Cb⟩:=jD EM.out yg DR DT
             have AJ:=zV
             have AL:=zU
             have AO:=zT
             have AP:=zS
             have AQ:=zR
             have AU:=zQ
             cases ET
             replace zQ:=(HB.out.cell (World.block_lt_of_cell? w _ zQ)).trans zQ
             replace zR:=(HB.out.cell (World.block_lt_of_cell? w _ zR)).trans zR
             replace zS:=(HB.out.cell (World.block_lt_of_cell? w _ zS)).trans zS
             replace zT:=(HB.out.cell (World.block_lt_of_cell? w _ zT)).trans zT
             replace zU:=(HB.out.cell (World.block_lt_of_cell? w _ zU)).trans zU
             replace zV:=(HB.out.cell (World.block_lt_of_cell? w _ zV)).trans zV
             have Cc:=Aside0.mk BZ
             have Dw:=Aside0.mk BU
             clear BZ BU
             have Ce:=Aside0.mk Cb
             have Dx:=Aside0.mk Ca
             clear Cb Ca
             replace DR:=eq_true DR
             replace DT:=eq_true DT
             have DU : 0 ≤ (yg : Int):=of_decide_eq_true (by first|(with_reducible assumption)|assumption)
             have DV : yg < (yj.length : Int):=of_decide_eq_true (by first|(with_reducible assumption)|assumption)
             obtain ⟨zl,C9,Da,Db,Dc,EU,zW,zX,zY,zZ,z8,Ac,Cg,Ch,Ci,Cj⟩:=jD EN.out yg DU DV
             have AV:=Ac
             have AX:=z8
             have AY:=zZ
             have AZ:=zY
             have Ba:=zX
             have Bb:=zW
             cases EU
             replace zW:=(HB.out.cell (World.block_lt_of_cell? w _ zW)).trans zW
             replace zX:=(HB.out.cell (World.block_lt_of_cell? w _ zX)).trans zX
             replace zY:=(HB.out.cell (World.block_lt_of_cell? w _ zY)).trans zY
             replace zZ:=(HB.out.cell (World.block_lt_of_cell? w _ zZ)).trans zZ
             replace z8:=(HB.out.cell (World.block_lt_of_cell? w _ z8)).trans z8
             replace Ac:=(HB.out.cell (World.block_lt_of_cell? w _ Ac)).trans Ac
             have Ck:=Aside0.mk Ch
             have Dy:=Aside0.mk Cg
             clear Ch Cg
             have Cm:=Aside0.mk Cj
             have Dz:=Aside0.mk Ci
             clear Cj Ci
             replace DU:=eq_true DU
             replace DV:=eq_true DV
             refine iM (n:=12) (S:=fun w'=>w'.cell? ⟨xW,0,none⟩ = some (.int .i64 yc) ∧ w'.cell? ⟨xW,1,none⟩ = some (.bool yA) ∧ w'.cell? ⟨xW,2,none⟩ = some (.int .i64 yw) ∧ w'.cell? ⟨xW,3,none⟩ = some (.string yx) ∧ w'.cell? ⟨xW,4,none⟩ = some (.slice (some zk) yh.length yP) ∧ w'.cell? ⟨xW,5,none⟩ = some (.slice zm xY.length yQ) ∧ w'.cell? ⟨xX,0,none⟩ = some (.int .i64 yG) ∧ w'.cell? ⟨xX,1,none⟩ = some (.bool yF) ∧ w'.cell? ⟨xX,2,none⟩ = some (.int .i64 yD) ∧ w'.cell? ⟨xX,3,none⟩ = some (.string yE) ∧ w'.cell? ⟨xX,4,none⟩ = some (.slice (some zl) yj.length zw) ∧ w'.cell? ⟨xX,5,none⟩ = some (.slice Ao xZ.length zx) ∧ w'.cell? (zk.add ((yg).toNat * 6)) = some (.int .i64 ((bD yh yg).f0)) ∧ w'.cell? ⟨(zk.add ((yg).toNat * 6)).block,(zk.add ((yg).toNat * 6)).off + 1,none⟩ = some (.bool ((bD yh yg).f1)) ∧ w'.cell? ⟨(zk.add ((yg).toNat * 6)).block,(zk.add ((yg).toNat * 6)).off + 2,none⟩ = some (.int .i64 ((bD yh yg).f2)) ∧ w'.cell? ⟨(zk.add ((yg).toNat * 6)).block,(zk.add ((yg).toNat * 6)).off + 3,none⟩ = some (.string ((bD yh yg).f3)) ∧ w'.cell? ⟨(zk.add ((yg).toNat * 6)).block,(zk.add ((yg).toNat * 6)).off + 4,none⟩ = some (.slice CX ((bD yh yg).f4).length CY) ∧ w'.cell? ⟨(zk.add ((yg).toNat * 6)).block,(zk.add ((yg).toNat * 6)).off + 5,none⟩ = some (.slice CZ ((bD yh yg).f5).length C8) ∧ w'.cell? (zl.add ((yg).toNat * 6)) = some (.int .i64 ((bD yj yg).f0)) ∧ w'.cell? ⟨(zl.add ((yg).toNat * 6)).block,(zl.add ((yg).toNat * 6)).off + 1,none⟩ = some (.bool ((bD yj yg).f1)) ∧ w'.cell? ⟨(zl.add ((yg).toNat * 6)).block,(zl.add ((yg).toNat * 6)).off + 2,none⟩ = some (.int .i64 ((bD yj yg).f2)) ∧ w'.cell? ⟨(zl.add ((yg).toNat * 6)).block,(zl.add ((yg).toNat * 6)).off + 3,none⟩ = some (.string ((bD yj yg).f3)) ∧ w'.cell? ⟨(zl.add ((yg).toNat * 6)).block,(zl.add ((yg).toNat * 6)).off + 4,none⟩ = some (.slice C9 ((bD yj yg).f4).length Da) ∧ w'.cell? ⟨(zl.add ((yg).toNat * 6)).block,(zl.add ((yg).toNat * 6)).off + 5,none⟩ = some (.slice Db ((bD yj yg).f5).length Dc)) (ds:=[]) #[false,false,false,false,false,false,false,false,false,false,false,false] (by kernel_rfl) rfl rfl ⟨(ah xS.out 0).trans rfl,(ah xS.out 1).trans rfl,(ah xS.out 2).trans rfl,(ah xS.out 3).trans rfl,(ah xS.out 4).trans rfl,(ah xS.out 5).trans rfl,(ah xU.out 0).trans rfl,(ah xU.out 1).trans rfl,(ah xU.out 2).trans rfl,(ah xU.out 3).trans rfl,(ah xU.out 4).trans rfl,(ah xU.out 5).trans rfl,((HB.out.cell (World.block_lt_of_cell? w _ AU)).trans AU),((HB.out.cell (World.block_lt_of_cell? w _ AQ)).trans AQ),((HB.out.cell (World.block_lt_of_cell? w _ AP)).trans AP),((HB.out.cell (World.block_lt_of_cell? w _ AO)).trans AO),((HB.out.cell (World.block_lt_of_cell? w _ AL)).trans AL),((HB.out.cell (World.block_lt_of_cell? w _ AJ)).trans AJ),((HB.out.cell (World.block_lt_of_cell? w _ Bb)).trans Bb),((HB.out.cell (World.block_lt_of_cell? w _ Ba)).trans Ba),((HB.out.cell (World.block_lt_of_cell? w _ AZ)).trans AZ),((HB.out.cell (World.block_lt_of_cell? w _ AY)).trans AY),((HB.out.cell (World.block_lt_of_cell? w _ AX)).trans AX),((HB.out.cell (World.block_lt_of_cell? w _ AV)).trans AV)⟩ (fun hHeld=>?_);refine fT aJ.wM aJ.uT (fun HT_ HW_=>?_)
             generalize wr.drew = SQ at xS xU HB Cc Ce Ck Cm zQ zR zS zT zU zV zW zX zY zZ z8 Ac hHeld ⊢
             refine bR (i:=0) (N:=some 65) (v:=?_) (a':=?_) #[true,false,false,false,false,false,false,false,false,false,false,false] rfl rfl (bH HT_.out (by kernel_rfl)) (fun _ _ _ h=>h) (Or.inl ⟨by rfl,?_⟩) ?_ ?_
             rotate_left
             ·intro w'
              go_simp
              with_reducible rfl
             rotate_left
             ·simp only [Act.put,List.setIfInBounds_toArray,List.set_cons_zero,List.set_cons_succ,bA,bB]
              rfl
             refine bR (i:=2) (N:=some 67) (v:=?_) (a':=?_) #[true,false,true,false,false,false,false,false,false,false,false,false] rfl rfl (bH HT_.out (by kernel_rfl)) (fun _ _ _ h=>h) (Or.inl ⟨by rfl,?_⟩) ?_ ?_
             rotate_left
             ·intro w'
              go_simp
              with_reducible rfl
             rotate_left
             ·simp only [Act.put,List.setIfInBounds_toArray,List.set_cons_zero,List.set_cons_succ,bA,bB]
              rfl
             refine bR (i:=5) (N:=some 70) (v:=?_) (a':=?_) #[true,false,true,false,false,true,false,false,false,false,false,false] rfl rfl (bH HT_.out (by kernel_rfl)) (fun _ _ _ h=>h) (Or.inl ⟨by rfl,?_⟩) ?_ ?_
             rotate_left
             ·intro w'
              go_simp
              with_reducible rfl
             rotate_left
             ·simp only [Act.put,List.setIfInBounds_toArray,List.set_cons_zero,List.set_cons_succ,bA,bB]
              rfl
             refine bR (i:=7) (N:=some 72) (v:=?_) (a':=?_) #[true,false,true,false,false,true,false,true,false,false,false,false] rfl rfl (bH HT_.out (by kernel_rfl)) (fun _ _ _ h=>h) (Or.inl ⟨by rfl,?_⟩) ?_ ?_
             rotate_left
             ·intro w'
              go_simp
              with_reducible rfl
             rotate_left
             ·simp only [Act.put,List.setIfInBounds_toArray,List.set_cons_zero,List.set_cons_succ,bA,bB]
              rfl
             refine dG (i:=1) (N:=some 66) (v:=?_) (a':=?_) #[true,true,true,false,false,true,false,true,false,false,false,false] rfl rfl (cu HT_.out HW_.out (by kernel_rfl)) (fun _ _ _ h=>h) (Or.inl ⟨by rfl,?_⟩) hHeld ?_ ?_
             rotate_left
             ·rintro w' ⟨s0,s1,s2,s3,s4,s5,s6,s7,s8,s9,s10,s11,s12,s13,CO,s15,s16,CP,CQ,CS,s20,CU,CV,CW⟩
              go_simp
              with_reducible rfl
             rotate_left
             ·simp only [Act.put,List.setIfInBounds_toArray,List.set_cons_zero,List.set_cons_succ,bA,bB]
              rfl
             refine bR (i:=3) (N:=some 68) (v:=?_) (a':=?_) #[true,true,true,true,false,true,false,true,false,false,false,false] rfl rfl (bH HT_.out (by kernel_rfl)) (fun _ _ _ h=>h) (Or.inl ⟨by rfl,?_⟩) ?_ ?_
             rotate_left
             ·intro w'
              go_simp
              with_reducible rfl
             rotate_left
             ·simp only [Act.put,List.setIfInBounds_toArray,List.set_cons_zero,List.set_cons_succ,bA,bB]
              rfl
             refine dG (i:=4) (N:=some 69) (v:=?_) (a':=?_) #[true,true,true,true,true,true,false,true,false,false,false,false] rfl rfl (cu HT_.out HW_.out (by kernel_rfl)) (fun _ _ _ h=>h) (Or.inl ⟨by rfl,?_⟩) hHeld ?_ ?_
             rotate_left
             ·rintro w' ⟨s0,s1,s2,s3,s4,s5,s6,s7,s8,s9,s10,s11,s12,s13,CO,s15,s16,CP,CQ,CS,s20,CU,CV,CW⟩
              go_simp
              with_reducible rfl
             rotate_left
             ·simp only [Act.put,List.setIfInBounds_toArray,List.set_cons_zero,List.set_cons_succ,bA,bB]
              rfl
             refine dG (i:=6) (N:=some 71) (v:=?_) (a':=?_) #[true,true,true,true,true,true,true,true,false,false,false,false] rfl rfl (cu HT_.out HW_.out (by kernel_rfl)) (fun _ _ _ h=>h) (Or.inl ⟨by rfl,?_⟩) hHeld ?_ ?_
             rotate_left
             ·rintro w' ⟨s0,s1,s2,s3,s4,s5,s6,s7,s8,s9,s10,s11,s12,s13,CO,s15,s16,CP,CQ,CS,s20,CU,CV,CW⟩
              go_simp
              with_reducible rfl
             rotate_left
             ·simp only [Act.put,List.setIfInBounds_toArray,List.set_cons_zero,List.set_cons_succ,bA,bB]
              rfl
             refine bR (i:=8) (N:=some 73) (v:=?_) (a':=?_) #[true,true,true,true,true,true,true,true,true,false,false,false] rfl rfl (bH HT_.out (by kernel_rfl)) (fun _ _ _ h=>h) (Or.inl ⟨by rfl,?_⟩) ?_ ?_
             rotate_left
             ·intro w'
              go_simp
              with_reducible rfl
             rotate_left
             ·simp only [Act.put,List.setIfInBounds_toArray,List.set_cons_zero,List.set_cons_succ,bA,bB]
              rfl
             refine dG (i:=9) (N:=some 74) (v:=?_) (a':=?_) #[true,true,true,true,true,true,true,true,true,true,false,false] rfl rfl (cu HT_.out HW_.out (by kernel_rfl)) (fun _ _ _ h=>h) (Or.inl ⟨by rfl,?_⟩) hHeld ?_ ?_
             rotate_left
             ·rintro w' ⟨s0,s1,s2,s3,s4,s5,s6,s7,s8,s9,s10,s11,s12,s13,CO,s15,s16,CP,CQ,CS,s20,CU,CV,CW⟩
              go_simp
              with_reducible rfl
             rotate_left
             ·simp only [Act.put,List.setIfInBounds_toArray,List.set_cons_zero,List.set_cons_succ,bA,bB]
              rfl
             refine gL (i:=10) (N:=some 75) #[true,true,true,true,true,true,true,true,true,true,true,false] rfl rfl (dM HT_.out (by kernel_rfl)) (by decide) (fun K hK=>?_)
             refine iT Tryd.func13 (by kernel_rfl) rfl #[.agg #[.int .i64 ((bD yh yg).f0),.bool ((bD yh yg).f1),.int .i64 ((bD yh yg).f2),.string ((bD yh yg).f3),.slice CX ((bD yh yg).f4).length CY,.slice CZ ((bD yh yg).f5).length C8],.agg #[.int .i64 ((bD yj yg).f0),.bool ((bD yj yg).f1),.int .i64 ((bD yj yg).f2),.string ((bD yj yg).f3),.slice C9 ((bD yj yg).f4).length Da,.slice Db ((bD yj yg).f5).length Dc]] (by rfl) rfl rfl (by (try simp only [List.map_toArray,List.map_cons,List.map_nil]);first|done|rfl|(simp only [List.length_drop,List.length_take];rfl)) ?_
             with_reducible refine (ih k2 (by have:=HJ2.out;have:=Fu.out;omega) ((bD yh yg).f0) ((bD yh yg).f1) ((bD yh yg).f2) ((bD yh yg).f3) _ _ ((bD yh yg).f4) _ _ ((bD yh yg).f5) ((bD yj yg).f0) ((bD yj yg).f1) ((bD yj yg).f2) ((bD yj yg).f3) _ _ ((bD yj yg).f4) _ _ ((bD yj yg).f5) false _ ?Df ?Dh ?Di ?Dj ?Dk ?Dl ?Dm ?Dn Sd.out).mono ?_
             (case Df=>repeat (first|exact (Kd.bO Cc.out HB.out)|(with_reducible refine Kd.bJ ?_ _)|(with_reducible refine Kd.bL ?_ _)|(with_reducible refine Kd.bS ?_)))
             (case Dh=>exact Dw.out)
             (case Di=>repeat (first|exact (Kd.bO Ce.out HB.out)|(with_reducible refine Kd.bJ ?_ _)|(with_reducible refine Kd.bL ?_ _)|(with_reducible refine Kd.bS ?_)))
             (case Dj=>exact Dx.out)
             (case Dk=>repeat (first|exact (Kd.bO Ck.out HB.out)|(with_reducible refine Kd.bJ ?_ _)|(with_reducible refine Kd.bL ?_ _)|(with_reducible refine Kd.bS ?_)))
             (case Dl=>exact Dy.out)
             (case Dm=>repeat (first|exact (Kd.bO Cm.out HB.out)|(with_reducible refine Kd.bJ ?_ _)|(with_reducible refine Kd.bL ?_ _)|(with_reducible refine Kd.bS ?_)))
             (case Dn=>exact Dz.out)
             rintro e SS ⟨rfl,hb⟩
             refine ⟨_,rfl,?_⟩
             have BQ:=Aside0.mk (aU (g:=xW) (o:=.cells #[.int .i64 yc,.bool yA,.int .i64 yw,.string yx,.slice (some zk) yh.length yP,.slice zm xY.length yQ] 33 (0,0)) (bk_ xS.out) hb)
             have BR:=Aside0.mk (aU (g:=xX) (o:=.cells #[.int .i64 yG,.bool yF,.int .i64 yD,.string yE,.slice (some zl) yj.length zw,.slice Ao xZ.length zx] 33 (0,0)) (bk_ xU.out) hb)
             have BS:=Aside0.mk (aT (by repeat (first|(with_reducible first|exact HB.out|apply av|apply ak|apply au|refine aD ?_ yH.out|refine aD ?_ yO.out)|exact HB.out)) hb)
             clear xS
             clear xU
             clear HB
             have xS:=BQ
             have xU:=BR
             have HB:=BS
             clear BQ BR BS
             (try clear hb)
             (try clear hb2)
             (try clear hk)
             (try clear hi)
             refine hK.out _ _ ⟨(ah xS.out 0).trans rfl,(ah xS.out 1).trans rfl,(ah xS.out 2).trans rfl,(ah xS.out 3).trans rfl,(ah xS.out 4).trans rfl,(ah xS.out 5).trans rfl,(ah xU.out 0).trans rfl,(ah xU.out 1).trans rfl,(ah xU.out 2).trans rfl,(ah xU.out 3).trans rfl,(ah xU.out 4).trans rfl,(ah xU.out 5).trans rfl,((HB.out.cell (World.block_lt_of_cell? w _ AU)).trans AU),((HB.out.cell (World.block_lt_of_cell? w _ AQ)).trans AQ),((HB.out.cell (World.block_lt_of_cell? w _ AP)).trans AP),((HB.out.cell (World.block_lt_of_cell? w _ AO)).trans AO),((HB.out.cell (World.block_lt_of_cell? w _ AL)).trans AL),((HB.out.cell (World.block_lt_of_cell? w _ AJ)).trans AJ),((HB.out.cell (World.block_lt_of_cell? w _ Bb)).trans Bb),((HB.out.cell (World.block_lt_of_cell? w _ Ba)).trans Ba),((HB.out.cell (World.block_lt_of_cell? w _ AZ)).trans AZ),((HB.out.cell (World.block_lt_of_cell? w _ AY)).trans AY),((HB.out.cell (World.block_lt_of_cell? w _ AX)).trans AX),((HB.out.cell (World.block_lt_of_cell? w _ AV)).trans AV)⟩ (fun hHeld=>?_)
             clear hK K
             refine dL (a':=?_) ?_ ?_
             rotate_left
             ·show Act.put _ (some 75) _ = _
              simp only [Act.put,List.setIfInBounds_toArray,List.set_cons_zero,List.set_cons_succ,bA,bB]
              rfl
             refine bR (i:=11) (N:=some 76) (v:=?_) (a':=?_) #[true,true,true,true,true,true,true,true,true,true,true,true] rfl rfl (bH HT_.out (by kernel_rfl)) (fun _ _ _ h=>h) (Or.inl ⟨by rfl,?_⟩) ?_ ?_
             rotate_left
             ·intro w'
              go_simp
              with_reducible rfl
             rotate_left
             ·simp only [Act.put,List.setIfInBounds_toArray,List.set_cons_zero,List.set_cons_succ,bA,bB]
              rfl
             refine jm (iB HT_.out (by kernel_rfl)) ?_
             try go_wp2
             go_ret
             exact ⟨by first|rfl|(simp [bg,bn] <;> rfl)|(simp [*,bg,bn] <;> rfl),by repeat (first|(with_reducible first|exact HB.out|apply av|apply ak|apply au|refine aD ?_ yH.out|refine aD ?_ yO.out)|exact HB.out)⟩
           ·rw [if_neg c64] at H
            exact absurd H (by simp)
          ·rw [if_neg OU] at H
           exact absurd H (by simp)
         ·rw [if_neg Fj] at H
          have c62b0 : decide (yg < (yh.length : Int)) = false:=decide_eq_false Fj
          clear Fj
          have H':=Aside0.mk H
          clear H
          have Sl:=yB.out
          have Sm:=yC.out
          have Pw : wr.cell? ⟨xW,0,none⟩ = some (.int .i64 yc):=(ah xS.out 0).trans rfl
          have Px : wr.cell? ⟨xW,1,none⟩ = some (.bool yA):=(ah xS.out 1).trans rfl
          have Py : wr.cell? ⟨xW,2,none⟩ = some (.int .i64 yw):=(ah xS.out 2).trans rfl
          have Pz : wr.cell? ⟨xW,3,none⟩ = some (.string yx):=(ah xS.out 3).trans rfl
          have PD : wr.cell? ⟨xW,4,none⟩ = some (.slice zi yh.length yP):=(ah xS.out 4).trans rfl
          have PE : wr.cell? ⟨xW,5,none⟩ = some (.slice zm xY.length yQ):=(ah xS.out 5).trans rfl
          have PG:=aj xS.out 0
          have PI:=aj xS.out 1
          have PK:=aj xS.out 2
          have PL:=aj xS.out 3
          have PN:=aj xS.out 4
          have PO:=aj xS.out 5
          go_wp2
          go_meet
          case rel=>exact ⟨_,H',⟨by have:=HJ2.out;have:=Fu.out;first|omega|exact Nat.le_refl _⟩,⟨by (with_reducible repeat (first|apply aA|apply aC|apply ay));exact xS.out⟩,⟨by (with_reducible repeat (first|apply aA|apply aC|apply ay));exact xU.out⟩,⟨by repeat (first|(with_reducible first|exact HB.out|apply av|apply ak|apply au|refine aD ?_ yH.out|refine aD ?_ yO.out)|exact HB.out)⟩⟩
      ·rw [if_neg ED] at H
       have c58b0 : ((yh.length : Int) == (yj.length : Int)) = false:=beq_eq_false_iff_ne.mpr ED
       have c58b1 : ((yh.length : Int) != (yj.length : Int)) = true:=bne_iff_ne.mpr ED
       have c58b2 : (yh.length == yj.length) = false:=by first|simpa using ED|(simp at ED ⊢;omega)
       obtain rfl:=Option.some.inj H
       have Sn:=yB.out
       have Sq:=yC.out
       have PS : wc.cell? ⟨xW,0,none⟩ = some (.int .i64 yc):=(ah xS.out 0).trans rfl
       have PU : wc.cell? ⟨xW,1,none⟩ = some (.bool yA):=(ah xS.out 1).trans rfl
       have PV : wc.cell? ⟨xW,2,none⟩ = some (.int .i64 yw):=(ah xS.out 2).trans rfl
       have PW : wc.cell? ⟨xW,3,none⟩ = some (.string yx):=(ah xS.out 3).trans rfl
       have PX : wc.cell? ⟨xW,4,none⟩ = some (.slice zi yh.length yP):=(ah xS.out 4).trans rfl
       have PY : wc.cell? ⟨xW,5,none⟩ = some (.slice zm xY.length yQ):=(ah xS.out 5).trans rfl
       have PZ:=aj xS.out 0
       have P5:=aj xS.out 1
       have P6:=aj xS.out 2
       have P7:=aj xS.out 3
       have P8:=aj xS.out 4
       have P9:=aj xS.out 5
       have Qa : wc.cell? ⟨xX,0,none⟩ = some (.int .i64 yG):=(ah xU.out 0).trans rfl
       have Qb : wc.cell? ⟨xX,1,none⟩ = some (.bool yF):=(ah xU.out 1).trans rfl
       have Qc : wc.cell? ⟨xX,2,none⟩ = some (.int .i64 yD):=(ah xU.out 2).trans rfl
       have Qd : wc.cell? ⟨xX,3,none⟩ = some (.string yE):=(ah xU.out 3).trans rfl
       have Qe : wc.cell? ⟨xX,4,none⟩ = some (.slice zP yj.length zw):=(ah xU.out 4).trans rfl
       have Qf : wc.cell? ⟨xX,5,none⟩ = some (.slice Ao xZ.length zx):=(ah xU.out 5).trans rfl
       have Qg:=aj xU.out 0
       have Qh:=aj xU.out 1
       have Qi:=aj xU.out 2
       have Qj:=aj xU.out 3
       have Qk:=aj xU.out 4
       have Ql:=aj xU.out 5
       go_wp2
       go_ret
       exact ⟨by first|rfl|(simp [bg,bn] <;> rfl)|(simp [*,bg,bn] <;> rfl),by repeat (first|(with_reducible first|exact HB.out|apply av|apply ak|apply au|refine aD ?_ yH.out|refine aD ?_ yO.out)|exact HB.out)⟩
     ·rw [if_neg ES] at H
      have c57b0 : (yc == 4) = false:=beq_eq_false_iff_ne.mpr ES
      have c57b1 : (yc != 4) = true:=bne_iff_ne.mpr ES
      (first|rw [c57b0]|(simp only [bA,bB];rw [c57b0])|skip)
      have H':=Aside0.mk H
      clear H
      go_wp2
      go_meet
      case rel=>exact ⟨_,H',⟨by have:=HJ2.out;first|omega|exact Nat.le_refl _⟩,⟨by (with_reducible repeat (first|apply aA|apply aC|apply ay));exact xS.out⟩,⟨by (with_reducible repeat (first|apply aA|apply aC|apply ay));exact xU.out⟩,⟨by repeat (first|(with_reducible first|exact HB.out|apply av|apply ak|apply au|refine aD ?_ yH.out|refine aD ?_ yO.out)|exact HB.out)⟩⟩
    case rest =>
     clear ER
     obtain ⟨kq,HA,EL,xS,xU,HB⟩:=hcut
     cases kq with
     | zero=>exact absurd HA.out (by simp [aJ.j2])
     | succ Fw =>
      have H:=HA.out
      clear HA
      simp only [aJ.j2] at H
      by_cases c80 : yc = 5
      ·rw [if_pos c80] at H
       have c80b0 : (yc == 5) = true:=beq_iff_eq.mpr c80
       have c80b1 : (yc != 5) = false:=bne_eq_false_iff_eq.mpr c80
       clear c80
       by_cases EF : (xY.length : Int) = (xZ.length : Int)
       ·rw [if_pos EF] at H
        have c81b0 : ((xY.length : Int) == (xZ.length : Int)) = true:=beq_iff_eq.mpr EF
        have c81b1 : ((xY.length : Int) != (xZ.length : Int)) = false:=bne_eq_false_iff_eq.mpr EF
        have c81b2 : (xY.length == xZ.length) = true:=by first|simpa using EF|(simp at EF ⊢;omega)
        clear EF
        have H':=Aside0.mk H
        clear H
        have Sr:=yB.out
        have Sv:=yC.out
        have Qm : wc.cell? ⟨xW,0,none⟩ = some (.int .i64 yc):=(ah xS.out 0).trans rfl
        have Qn : wc.cell? ⟨xW,1,none⟩ = some (.bool yA):=(ah xS.out 1).trans rfl
        have Qo : wc.cell? ⟨xW,2,none⟩ = some (.int .i64 yw):=(ah xS.out 2).trans rfl
        have Qp : wc.cell? ⟨xW,3,none⟩ = some (.string yx):=(ah xS.out 3).trans rfl
        have Qq : wc.cell? ⟨xW,4,none⟩ = some (.slice zi yh.length yP):=(ah xS.out 4).trans rfl
        have Qr : wc.cell? ⟨xW,5,none⟩ = some (.slice zm xY.length yQ):=(ah xS.out 5).trans rfl
        have Qs:=aj xS.out 0
        have Qt:=aj xS.out 1
        have Qu:=aj xS.out 2
        have Qv:=aj xS.out 3
        have Qw:=aj xS.out 4
        have Qx:=aj xS.out 5
        have Qy : wc.cell? ⟨xX,0,none⟩ = some (.int .i64 yG):=(ah xU.out 0).trans rfl
        have Qz : wc.cell? ⟨xX,1,none⟩ = some (.bool yF):=(ah xU.out 1).trans rfl
        have QA : wc.cell? ⟨xX,2,none⟩ = some (.int .i64 yD):=(ah xU.out 2).trans rfl
        have QB : wc.cell? ⟨xX,3,none⟩ = some (.string yE):=(ah xU.out 3).trans rfl
        have QC : wc.cell? ⟨xX,4,none⟩ = some (.slice zP yj.length zw):=(ah xU.out 4).trans rfl
        have QD : wc.cell? ⟨xX,5,none⟩ = some (.slice Ao xZ.length zx):=(ah xU.out 5).trans rfl
        have QE:=aj xU.out 0
        have QF:=aj xU.out 1
        have QG:=aj xU.out 2
        have QH:=aj xU.out 3
        have QI:=aj xU.out 4
        have QJ:=aj xU.out 5
        go_wp2
        go_loopg [6] Fw (fun kq v6 w'=>∃ (xV : Int),v6 = .int .i64 xV ∧ Aside0 (aJ.l1 kq xV yc yA yw yx yh xY yG yF yD yE yj xZ = some r) ∧ Aside0 (kq ≤ Fw) ∧ Aside0 (w'.heap[xW]? = some (.cells #[.int .i64 yc,.bool yA,.int .i64 yw,.string yx,(.slice zi yh.length yP),(.slice zm xY.length yQ)] 33 (0,0))) ∧ Aside0 (w'.heap[xX]? = some (.cells #[.int .i64 yG,.bool yF,.int .i64 yD,.string yE,(.slice zP yj.length zw),(.slice Ao xZ.length zx)] 33 (0,0))) ∧ Aside0 (Below w.heap.size w w'))
        case atStart=>exact ⟨(0),(by first|rfl|(simp;done)|(simp [*];done)),H',⟨Nat.le_refl _⟩,⟨by (with_reducible repeat (first|apply aA|apply aC|apply ay));exact xS.out⟩,⟨by (with_reducible repeat (first|apply aA|apply aC|apply ay));exact xU.out⟩,⟨by repeat (first|(with_reducible first|exact HB.out|apply av|apply ak|apply au|refine aD ?_ yH.out|refine aD ?_ yO.out)|exact HB.out)⟩⟩
        case round =>
         clear H'
         obtain ⟨xV,rfl,HA,QK,xS,xU,HB⟩:=hrel
         cases gk with
         | zero=>exact absurd HA.out (by simp [aJ.l1])
         | succ k3 =>
          have H:=HA.out
          clear HA
          simp only [aJ.l1] at H
          by_cases c85 : xV < (xY.length : Int)
          ·rw [if_pos c85] at H
           have c85b0 : decide (xV < (xY.length : Int)) = true:=decide_eq_true c85
           clear c85
           by_cases QL : 0 ≤ xV
           ·rw [if_pos QL] at H
            have c86b0 : decide (0 ≤ xV) = true:=decide_eq_true QL
            clear QL
            by_cases c87 : xV < (xZ.length : Int)
            ·rw [if_pos c87] at H
             have c87b0 : decide (xV < (xZ.length : Int)) = true:=decide_eq_true c87
             clear c87
             by_cases EW : ((aW xY xV).f0).toList = ((aW xZ xV).f0).toList
             ·rw [if_pos EW] at H
              have c88b0 : (((aW xY xV).f0).toList == ((aW xZ xV).f0).toList) = true:=beq_iff_eq.mpr EW
              have c88b1 : (((aW xY xV).f0).toList != ((aW xZ xV).f0).toList) = false:=bne_eq_false_iff_eq.mpr EW
              clear EW
              replace H:=Option.bind_eq_some_iff.mp H
              obtain ⟨EJ,Fx,H⟩:=H
              replace H : (if EJ = true then (aJ.l1 k3 (wrap64 (xV + 1)) yc yA yw yx yh xY yG yF yD yE yj xZ) else (some false)) = some r:=H
              have Sw:=Aside0.mk Fx
              clear Fx
              by_cases QM : EJ = true
              ·subst QM
               have H1 : (aJ.l1 k3 (wrap64 (xV + 1)) yc yA yw yx yh xY yG yF yD yE yj xZ) = some r:=by rw [if_pos rfl] at H;exact H
               clear H
               have H:=H1
               clear H1
               have H':=Aside0.mk H
               clear H
               have Sy:=yB.out
               have Sz:=yC.out
               have QN : wr.cell? ⟨xW,0,none⟩ = some (.int .i64 yc):=(ah xS.out 0).trans rfl
               have QO : wr.cell? ⟨xW,1,none⟩ = some (.bool yA):=(ah xS.out 1).trans rfl
               have QS : wr.cell? ⟨xW,2,none⟩ = some (.int .i64 yw):=(ah xS.out 2).trans rfl
               have QT : wr.cell? ⟨xW,3,none⟩ = some (.string yx):=(ah xS.out 3).trans rfl
               have QU : wr.cell? ⟨xW,4,none⟩ = some (.slice zi yh.length yP):=(ah xS.out 4).trans rfl
               have QV : wr.cell? ⟨xW,5,none⟩ = some (.slice zm xY.length yQ):=(ah xS.out 5).trans rfl
               have QW:=aj xS.out 0
               have QX:=aj xS.out 1
               have QY:=aj xS.out 2
               have QZ:=aj xS.out 3
               have Q0:=aj xS.out 4
               have Q5:=aj xS.out 5
               try go_wp2
               have BQ:=Aside0.mk (aC xS.out)
               have BR:=Aside0.mk (aC xU.out)
               have BS:=Aside0.mk (au HB.out)
               clear xS
               clear xU
               clear HB
               have xS:=BQ
               have xU:=BR
               have HB:=BS
               clear BQ BR BS
               have Dp : 0 ≤ (xV : Int):=of_decide_eq_true (by first|(with_reducible assumption)|assumption)
               have Dq : xV < (xY.length : Int):=of_decide_eq_true (by first|(with_reducible assumption)|assumption)
               obtain ⟨yt,BI,BJ,BK,BL,EG,yT,yU,yV,yX,yY,yI,yJ,Bv,Bw,Bz,BA⟩:=fV DL.out xV Dp Dq
               have zy:=yJ
               have zA:=yI
               have zB:=yY
               have zC:=yX
               have zD:=yV
               have zF:=yU
               have zG:=yT
               cases EG
               replace yT:=(HB.out.cell (World.block_lt_of_cell? w _ yT)).trans yT
               replace yU:=(HB.out.cell (World.block_lt_of_cell? w _ yU)).trans yU
               replace yV:=(HB.out.cell (World.block_lt_of_cell? w _ yV)).trans yV
               replace yX:=(HB.out.cell (World.block_lt_of_cell? w _ yX)).trans yX
               replace yY:=(HB.out.cell (World.block_lt_of_cell? w _ yY)).trans yY
               replace yI:=(HB.out.cell (World.block_lt_of_cell? w _ yI)).trans yI
               replace yJ:=(HB.out.cell (World.block_lt_of_cell? w _ yJ)).trans yJ
               have Cn:=Aside0.mk Bw
               have Em:=Aside0.mk Bv
               clear Bw Bv
               have Co:=Aside0.mk BA
               have En:=Aside0.mk Bz
               clear BA Bz
               replace Dp:=eq_true Dp
               replace Dq:=eq_true Dq
               have Dr : 0 ≤ (xV : Int):=of_decide_eq_true (by first|(with_reducible assumption)|assumption)
               have Dt : xV < (xZ.length : Int):=of_decide_eq_true (by first|(with_reducible assumption)|assumption)
               obtain ⟨yu,BM,BN,BO,BP,e197,yZ,za,ze,zf,zh,yK,yL,BD,BF,BG,BH⟩:=fV DN.out xV Dr Dt
               have zH:=yL
               have zI:=yK
               have zJ:=zh
               have zK:=zf
               have zL:=ze
               have zM:=za
               have zN:=yZ
               cases e197
               replace yZ:=(HB.out.cell (World.block_lt_of_cell? w _ yZ)).trans yZ
               replace za:=(HB.out.cell (World.block_lt_of_cell? w _ za)).trans za
               replace ze:=(HB.out.cell (World.block_lt_of_cell? w _ ze)).trans ze
               replace zf:=(HB.out.cell (World.block_lt_of_cell? w _ zf)).trans zf
               replace zh:=(HB.out.cell (World.block_lt_of_cell? w _ zh)).trans zh
               replace yK:=(HB.out.cell (World.block_lt_of_cell? w _ yK)).trans yK
               replace yL:=(HB.out.cell (World.block_lt_of_cell? w _ yL)).trans yL
               have Cq:=Aside0.mk BF
               have Eo:=Aside0.mk BD
               clear BF BD
               have Cr:=Aside0.mk BH
               have Ep:=Aside0.mk BG
               clear BH BG
               replace Dr:=eq_true Dr
               replace Dt:=eq_true Dt
               have DW : 0 ≤ (xV : Int):=of_decide_eq_true (by first|(with_reducible assumption)|assumption)
               have DX : xV < (xY.length : Int):=of_decide_eq_true (by first|(with_reducible assumption)|assumption)
               obtain ⟨EH,EZ,E5,E8,E9,Fa,Ad,Ae,Af,Ag,Ah,zn,zo,Ct,Cu,Cv,Cw⟩:=fV DL.out xV DW DX
               have Bc:=zo
               have Bd:=zn
               have Bf:=Ah
               have Bg:=Ag
               have Bh:=Af
               have Bj:=Ae
               have Bl:=Ad
               obtain rfl : yt = EH:=(by injection Fa)
               replace Ad:=(HB.out.cell (World.block_lt_of_cell? w _ Ad)).trans Ad
               replace Ae:=(HB.out.cell (World.block_lt_of_cell? w _ Ae)).trans Ae
               replace Af:=(HB.out.cell (World.block_lt_of_cell? w _ Af)).trans Af
               replace Ag:=(HB.out.cell (World.block_lt_of_cell? w _ Ag)).trans Ag
               replace Ah:=(HB.out.cell (World.block_lt_of_cell? w _ Ah)).trans Ah
               replace zn:=(HB.out.cell (World.block_lt_of_cell? w _ zn)).trans zn
               replace zo:=(HB.out.cell (World.block_lt_of_cell? w _ zo)).trans zo
               have Cx:=Aside0.mk Cu
               have DC:=Aside0.mk Ct
               clear Cu Ct
               have Cy:=Aside0.mk Cw
               have DF:=Aside0.mk Cv
               clear Cw Cv
               replace DW:=eq_true DW
               replace DX:=eq_true DX
               have ea_:=Option.some.inj (yI.symm.trans zn)
               injection ea_ with ea_ en_ ec_
               subst ea_
               subst ec_
               clear en_
               have ea_:=Option.some.inj (yJ.symm.trans zo)
               injection ea_ with ea_ en_ ec_
               subst ea_
               subst ec_
               clear en_
               have DY : 0 ≤ (xV : Int):=of_decide_eq_true (by first|(with_reducible assumption)|assumption)
               have DZ : xV < (xZ.length : Int):=of_decide_eq_true (by first|(with_reducible assumption)|assumption)
               obtain ⟨EI,Fb,Fe,Fg,Fh,e199,Ai,Aj,Ak,Al,Am,zq,zu,Cz,CB,CF,CG⟩:=fV DN.out xV DY DZ
               have Bn:=zu
               have Bo:=zq
               have Bp:=Am
               have Bq:=Al
               have Br:=Ak
               have Bt:=Aj
               have Bu:=Ai
               obtain rfl : yu = EI:=(by injection e199)
               replace Ai:=(HB.out.cell (World.block_lt_of_cell? w _ Ai)).trans Ai
               replace Aj:=(HB.out.cell (World.block_lt_of_cell? w _ Aj)).trans Aj
               replace Ak:=(HB.out.cell (World.block_lt_of_cell? w _ Ak)).trans Ak
               replace Al:=(HB.out.cell (World.block_lt_of_cell? w _ Al)).trans Al
               replace Am:=(HB.out.cell (World.block_lt_of_cell? w _ Am)).trans Am
               replace zq:=(HB.out.cell (World.block_lt_of_cell? w _ zq)).trans zq
               replace zu:=(HB.out.cell (World.block_lt_of_cell? w _ zu)).trans zu
               have CJ:=Aside0.mk CB
               have DI:=Aside0.mk Cz
               clear CB Cz
               have CK:=Aside0.mk CG
               have DJ:=Aside0.mk CF
               clear CG CF
               replace DY:=eq_true DY
               replace DZ:=eq_true DZ
               have ea_:=Option.some.inj (yK.symm.trans zq)
               injection ea_ with ea_ en_ ec_
               subst ea_
               subst ec_
               clear en_
               have ea_:=Option.some.inj (yL.symm.trans zu)
               injection ea_ with ea_ en_ ec_
               subst ea_
               subst ec_
               clear en_
               refine iM (n:=29) (S:=fun w'=>w'.cell? ⟨xW,0,none⟩ = some (.int .i64 yc) ∧ w'.cell? ⟨xW,1,none⟩ = some (.bool yA) ∧ w'.cell? ⟨xW,2,none⟩ = some (.int .i64 yw) ∧ w'.cell? ⟨xW,3,none⟩ = some (.string yx) ∧ w'.cell? ⟨xW,4,none⟩ = some (.slice zi yh.length yP) ∧ w'.cell? ⟨xW,5,none⟩ = some (.slice (some yt) xY.length yQ) ∧ w'.cell? ⟨xX,0,none⟩ = some (.int .i64 yG) ∧ w'.cell? ⟨xX,1,none⟩ = some (.bool yF) ∧ w'.cell? ⟨xX,2,none⟩ = some (.int .i64 yD) ∧ w'.cell? ⟨xX,3,none⟩ = some (.string yE) ∧ w'.cell? ⟨xX,4,none⟩ = some (.slice zP yj.length zw) ∧ w'.cell? ⟨xX,5,none⟩ = some (.slice (some yu) xZ.length zx) ∧ w'.cell? (yt.add ((xV).toNat * 7)) = some (.string ((aW xY xV).f0)) ∧ w'.cell? ⟨(yt.add ((xV).toNat * 7)).block,(yt.add ((xV).toNat * 7)).off + 1,none⟩ = some (.int .i64 ((aW xY xV).f1.f0)) ∧ w'.cell? ⟨(yt.add ((xV).toNat * 7)).block,(yt.add ((xV).toNat * 7)).off + 2,none⟩ = some (.bool ((aW xY xV).f1.f1)) ∧ w'.cell? ⟨(yt.add ((xV).toNat * 7)).block,(yt.add ((xV).toNat * 7)).off + 3,none⟩ = some (.int .i64 ((aW xY xV).f1.f2)) ∧ w'.cell? ⟨(yt.add ((xV).toNat * 7)).block,(yt.add ((xV).toNat * 7)).off + 4,none⟩ = some (.string ((aW xY xV).f1.f3)) ∧ w'.cell? ⟨(yt.add ((xV).toNat * 7)).block,(yt.add ((xV).toNat * 7)).off + 5,none⟩ = some (.slice BI ((aW xY xV).f1.f4).length BJ) ∧ w'.cell? ⟨(yt.add ((xV).toNat * 7)).block,(yt.add ((xV).toNat * 7)).off + 6,none⟩ = some (.slice BK ((aW xY xV).f1.f5).length BL) ∧ w'.cell? (yu.add ((xV).toNat * 7)) = some (.string ((aW xZ xV).f0)) ∧ w'.cell? ⟨(yu.add ((xV).toNat * 7)).block,(yu.add ((xV).toNat * 7)).off + 1,none⟩ = some (.int .i64 ((aW xZ xV).f1.f0)) ∧ w'.cell? ⟨(yu.add ((xV).toNat * 7)).block,(yu.add ((xV).toNat * 7)).off + 2,none⟩ = some (.bool ((aW xZ xV).f1.f1)) ∧ w'.cell? ⟨(yu.add ((xV).toNat * 7)).block,(yu.add ((xV).toNat * 7)).off + 3,none⟩ = some (.int .i64 ((aW xZ xV).f1.f2)) ∧ w'.cell? ⟨(yu.add ((xV).toNat * 7)).block,(yu.add ((xV).toNat * 7)).off + 4,none⟩ = some (.string ((aW xZ xV).f1.f3)) ∧ w'.cell? ⟨(yu.add ((xV).toNat * 7)).block,(yu.add ((xV).toNat * 7)).off + 5,none⟩ = some (.slice BM ((aW xZ xV).f1.f4).length BN) ∧ w'.cell? ⟨(yu.add ((xV).toNat * 7)).block,(yu.add ((xV).toNat * 7)).off + 6,none⟩ = some (.slice BO ((aW xZ xV).f1.f5).length BP) ∧ w'.cell? (yt.add ((xV).toNat * 7)) = some (.string ((aW xY xV).f0)) ∧ w'.cell? ⟨(yt.add ((xV).toNat * 7)).block,(yt.add ((xV).toNat * 7)).off + 1,none⟩ = some (.int .i64 ((aW xY xV).f1.f0)) ∧ w'.cell? ⟨(yt.add ((xV).toNat * 7)).block,(yt.add ((xV).toNat * 7)).off + 2,none⟩ = some (.bool ((aW xY xV).f1.f1)) ∧ w'.cell? ⟨(yt.add ((xV).toNat * 7)).block,(yt.add ((xV).toNat * 7)).off + 3,none⟩ = some (.int .i64 ((aW xY xV).f1.f2)) ∧ w'.cell? ⟨(yt.add ((xV).toNat * 7)).block,(yt.add ((xV).toNat * 7)).off + 4,none⟩ = some (.string ((aW xY xV).f1.f3)) ∧ w'.cell? ⟨(yt.add ((xV).toNat * 7)).block,(yt.add ((xV).toNat * 7)).off + 5,none⟩ = some (.slice BI ((aW xY xV).f1.f4).length BJ) ∧ w'.cell? ⟨(yt.add ((xV).toNat * 7)).block,(yt.add ((xV).toNat * 7)).off + 6,none⟩ = some (.slice BK ((aW xY xV).f1.f5).length BL) ∧ w'.cell? (yu.add ((xV).toNat * 7)) = some (.string ((aW xZ xV).f0)) ∧ w'.cell? ⟨(yu.add ((xV).toNat * 7)).block,(yu.add ((xV).toNat * 7)).off + 1,none⟩ = some (.int .i64 ((aW xZ xV).f1.f0)) ∧ w'.cell? ⟨(yu.add ((xV).toNat * 7)).block,(yu.add ((xV).toNat * 7)).off + 2,none⟩ = some (.bool ((aW xZ xV).f1.f1)) ∧ w'.cell? ⟨(yu.add ((xV).toNat * 7)).block,(yu.add ((xV).toNat * 7)).off + 3,none⟩ = some (.int .i64 ((aW xZ xV).f1.f2)) ∧ w'.cell? ⟨(yu.add ((xV).toNat * 7)).block,(yu.add ((xV).toNat * 7)).off + 4,none⟩ = some (.string ((aW xZ xV).f1.f3)) ∧ w'.cell? ⟨(yu.add ((xV).toNat * 7)).block,(yu.add ((xV).toNat * 7)).off + 5,none⟩ = some (.slice BM ((aW xZ xV).f1.f4).length BN) ∧ w'.cell? ⟨(yu.add ((xV).toNat * 7)).block,(yu.add ((xV).toNat * 7)).off + 6,none⟩ = some (.slice BO ((aW xZ xV).f1.f5).length BP)) (ds:=[]) #[false,false,false,false,false,false,false,false,false,false,false,false,false,false,false,false,false,false,false,false,false,false,false,false,false,false,false,false,false] (by kernel_rfl) rfl rfl ⟨(ah xS.out 0).trans rfl,(ah xS.out 1).trans rfl,(ah xS.out 2).trans rfl,(ah xS.out 3).trans rfl,(ah xS.out 4).trans rfl,(ah xS.out 5).trans rfl,(ah xU.out 0).trans rfl,(ah xU.out 1).trans rfl,(ah xU.out 2).trans rfl,(ah xU.out 3).trans rfl,(ah xU.out 4).trans rfl,(ah xU.out 5).trans rfl,((HB.out.cell (World.block_lt_of_cell? w _ zG)).trans zG),((HB.out.cell (World.block_lt_of_cell? w _ zF)).trans zF),((HB.out.cell (World.block_lt_of_cell? w _ zD)).trans zD),((HB.out.cell (World.block_lt_of_cell? w _ zC)).trans zC),((HB.out.cell (World.block_lt_of_cell? w _ zB)).trans zB),((HB.out.cell (World.block_lt_of_cell? w _ zA)).trans zA),((HB.out.cell (World.block_lt_of_cell? w _ zy)).trans zy),((HB.out.cell (World.block_lt_of_cell? w _ zN)).trans zN),((HB.out.cell (World.block_lt_of_cell? w _ zM)).trans zM),((HB.out.cell (World.block_lt_of_cell? w _ zL)).trans zL),((HB.out.cell (World.block_lt_of_cell? w _ zK)).trans zK),((HB.out.cell (World.block_lt_of_cell? w _ zJ)).trans zJ),((HB.out.cell (World.block_lt_of_cell? w _ zI)).trans zI),((HB.out.cell (World.block_lt_of_cell? w _ zH)).trans zH),((HB.out.cell (World.block_lt_of_cell? w _ Bl)).trans Bl),((HB.out.cell (World.block_lt_of_cell? w _ Bj)).trans Bj),((HB.out.cell (World.block_lt_of_cell? w _ Bh)).trans Bh),((HB.out.cell (World.block_lt_of_cell? w _ Bg)).trans Bg),((HB.out.cell (World.block_lt_of_cell? w _ Bf)).trans Bf),((HB.out.cell (World.block_lt_of_cell? w _ Bd)).trans Bd),((HB.out.cell (World.block_lt_of_cell? w _ Bc)).trans Bc),((HB.out.cell (World.block_lt_of_cell? w _ Bu)).trans Bu),((HB.out.cell (World.block_lt_of_cell? w _ Bt)).trans Bt),((HB.out.cell (World.block_lt_of_cell? w _ Br)).trans Br),((HB.out.cell (World.block_lt_of_cell? w _ Bq)).trans Bq),((HB.out.cell (World.block_lt_of_cell? w _ Bp)).trans Bp),((HB.out.cell (World.block_lt_of_cell? w _ Bo)).trans Bo),((HB.out.cell (World.block_lt_of_cell? w _ Bn)).trans Bn)⟩ (fun hHeld=>?_);refine fT aJ.oq aJ.mq (fun HT_ HW_=>?_)
               generalize wr.drew = SX at xS xU HB Cn Co Cq Cr Cx Cy CJ CK yT yU yV yX yY yI yJ yZ za ze zf zh yK yL Ad Ae Af Ag Ah zn zo Ai Aj Ak Al Am zq zu hHeld ⊢
               refine bR (i:=0) (N:=some 94) (v:=?_) (a':=?_) #[true,false,false,false,false,false,false,false,false,false,false,false,false,false,false,false,false,false,false,false,false,false,false,false,false,false,false,false,false] rfl rfl (bH HT_.out (by kernel_rfl)) (fun _ _ _ h=>h) (Or.inl ⟨by rfl,?_⟩) ?_ ?_
               rotate_left
               ·intro w'
                go_simp
                with_reducible rfl
               rotate_left
               ·simp only [Act.put,List.setIfInBounds_toArray,List.set_cons_zero,List.set_cons_succ,bA,bB]
                rfl
               refine bR (i:=2) (N:=some 96) (v:=?_) (a':=?_) #[true,false,true,false,false,false,false,false,false,false,false,false,false,false,false,false,false,false,false,false,false,false,false,false,false,false,false,false,false] rfl rfl (bH HT_.out (by kernel_rfl)) (fun _ _ _ h=>h) (Or.inl ⟨by rfl,?_⟩) ?_ ?_
               rotate_left
               ·intro w'
                go_simp
                with_reducible rfl
               rotate_left
               ·simp only [Act.put,List.setIfInBounds_toArray,List.set_cons_zero,List.set_cons_succ,bA,bB]
                rfl
               refine bR (i:=6) (N:=some 100) (v:=?_) (a':=?_) #[true,false,true,false,false,false,true,false,false,false,false,false,false,false,false,false,false,false,false,false,false,false,false,false,false,false,false,false,false] rfl rfl (bH HT_.out (by kernel_rfl)) (fun _ _ _ h=>h) (Or.inl ⟨by rfl,?_⟩) ?_ ?_
               rotate_left
               ·intro w'
                go_simp
                with_reducible rfl
               rotate_left
               ·simp only [Act.put,List.setIfInBounds_toArray,List.set_cons_zero,List.set_cons_succ,bA,bB]
                rfl
               refine bR (i:=8) (N:=some 102) (v:=?_) (a':=?_) #[true,false,true,false,false,false,true,false,true,false,false,false,false,false,false,false,false,false,false,false,false,false,false,false,false,false,false,false,false] rfl rfl (bH HT_.out (by kernel_rfl)) (fun _ _ _ h=>h) (Or.inl ⟨by rfl,?_⟩) ?_ ?_
               rotate_left
               ·intro w'
                go_simp
                with_reducible rfl
               rotate_left
               ·simp only [Act.put,List.setIfInBounds_toArray,List.set_cons_zero,List.set_cons_succ,bA,bB]
                rfl
               refine dG (i:=1) (N:=some 95) (v:=?_) (a':=?_) #[true,true,true,false,false,false,true,false,true,false,false,false,false,false,false,false,false,false,false,false,false,false,false,false,false,false,false,false,false] rfl rfl (cu HT_.out HW_.out (by kernel_rfl)) (fun _ _ _ h=>h) (Or.inl ⟨by rfl,?_⟩) hHeld ?_ ?_
               rotate_left
               ·rintro w' ⟨s0,s1,s2,s3,s4,s5,s6,s7,s8,s9,s10,s11,s12,s13,CO,s15,s16,CP,CQ,CS,s20,CU,CV,CW,s24,DK,D5,D6,D7,D8,D9,Ea,Eb,Ec,Ed,Ee,Ef,Eh,Ei,Ej⟩
                go_simp
                with_reducible rfl
               rotate_left
               ·simp only [Act.put,List.setIfInBounds_toArray,List.set_cons_zero,List.set_cons_succ,bA,bB]
                rfl
               refine bR (i:=3) (N:=some 97) (v:=?_) (a':=?_) #[true,true,true,true,false,false,true,false,true,false,false,false,false,false,false,false,false,false,false,false,false,false,false,false,false,false,false,false,false] rfl rfl (bH HT_.out (by kernel_rfl)) (fun _ _ _ h=>h) (Or.inl ⟨by rfl,?_⟩) ?_ ?_
               rotate_left
               ·intro w'
                go_simp
                with_reducible rfl
               rotate_left
               ·simp only [Act.put,List.setIfInBounds_toArray,List.set_cons_zero,List.set_cons_succ,bA,bB]
                rfl
               refine bR (i:=4) (N:=some 98) (v:=?_) (a':=?_) #[true,true,true,true,true,false,true,false,true,false,false,false,false,false,false,false,false,false,false,false,false,false,false,false,false,false,false,false,false] rfl rfl (bH HT_.out (by kernel_rfl)) (fun _ _ _ h=>h) (Or.inl ⟨by rfl,?_⟩) ?_ ?_
               rotate_left
               ·intro w'
                go_simp
                with_reducible rfl
               rotate_left
               ·simp only [Act.put,List.setIfInBounds_toArray,List.set_cons_zero,List.set_cons_succ,bA,bB]
                rfl
               refine dG (i:=5) (N:=some 99) (v:=?_) (a':=?_) #[true,true,true,true,true,true,true,false,true,false,false,false,false,false,false,false,false,false,false,false,false,false,false,false,false,false,false,false,false] rfl rfl (cu HT_.out HW_.out (by kernel_rfl)) (fun _ _ _ h=>h) (Or.inl ⟨by rfl,?_⟩) hHeld ?_ ?_
               rotate_left
               ·rintro w' ⟨s0,s1,s2,s3,s4,s5,s6,s7,s8,s9,s10,s11,s12,s13,CO,s15,s16,CP,CQ,CS,s20,CU,CV,CW,s24,DK,D5,D6,D7,D8,D9,Ea,Eb,Ec,Ed,Ee,Ef,Eh,Ei,Ej⟩
                go_simp
                with_reducible rfl
               rotate_left
               ·simp only [Act.put,List.setIfInBounds_toArray,List.set_cons_zero,List.set_cons_succ,bA,bB]
                rfl
               refine dG (i:=7) (N:=some 101) (v:=?_) (a':=?_) #[true,true,true,true,true,true,true,true,true,false,false,false,false,false,false,false,false,false,false,false,false,false,false,false,false,false,false,false,false] rfl rfl (cu HT_.out HW_.out (by kernel_rfl)) (fun _ _ _ h=>h) (Or.inl ⟨by rfl,?_⟩) hHeld ?_ ?_
               rotate_left
               ·rintro w' ⟨s0,s1,s2,s3,s4,s5,s6,s7,s8,s9,s10,s11,s12,s13,CO,s15,s16,CP,CQ,CS,s20,CU,CV,CW,s24,DK,D5,D6,D7,D8,D9,Ea,Eb,Ec,Ed,Ee,Ef,Eh,Ei,Ej⟩
                go_simp
                with_reducible rfl
               rotate_left
               ·simp only [Act.put,List.setIfInBounds_toArray,List.set_cons_zero,List.set_cons_succ,bA,bB]
                rfl
               refine bR (i:=9) (N:=some 103) (v:=?_) (a':=?_) #[true,true,true,true,true,true,true,true,true,true,false,false,false,false,false,false,false,false,false,false,false,false,false,false,false,false,false,false,false] rfl rfl (bH HT_.out (by kernel_rfl)) (fun _ _ _ h=>h) (Or.inl ⟨by rfl,?_⟩) ?_ ?_
               rotate_left
               ·intro w'
                go_simp
                with_reducible rfl
               rotate_left
               ·simp only [Act.put,List.setIfInBounds_toArray,List.set_cons_zero,List.set_cons_succ,bA,bB]
                rfl
               refine bR (i:=10) (N:=some 104) (v:=?_) (a':=?_) #[true,true,true,true,true,true,true,true,true,true,true,false,false,false,false,false,false,false,false,false,false,false,false,false,false,false,false,false,false] rfl rfl (bH HT_.out (by kernel_rfl)) (fun _ _ _ h=>h) (Or.inl ⟨by rfl,?_⟩) ?_ ?_
               rotate_left
               ·intro w'
                go_simp
                with_reducible rfl
               rotate_left
               ·simp only [Act.put,List.setIfInBounds_toArray,List.set_cons_zero,List.set_cons_succ,bA,bB]
                rfl
               refine dG (i:=11) (N:=some 105) (v:=?_) (a':=?_) #[true,true,true,true,true,true,true,true,true,true,true,true,false,false,false,false,false,false,false,false,false,false,false,false,false,false,false,false,false] rfl rfl (cu HT_.out HW_.out (by kernel_rfl)) (fun _ _ _ h=>h) (Or.inl ⟨by rfl,?_⟩) hHeld ?_ ?_
               rotate_left
               ·rintro w' ⟨s0,s1,s2,s3,s4,s5,s6,s7,s8,s9,s10,s11,s12,s13,CO,s15,s16,CP,CQ,CS,s20,CU,CV,CW,s24,DK,D5,D6,D7,D8,D9,Ea,Eb,Ec,Ed,Ee,Ef,Eh,Ei,Ej⟩
                go_simp
                with_reducible rfl
               rotate_left
               ·simp only [Act.put,List.setIfInBounds_toArray,List.set_cons_zero,List.set_cons_succ,bA,bB]
                rfl
               refine bR (i:=12) (N:=some 106) (v:=?_) (a':=?_) #[true,true,true,true,true,true,true,true,true,true,true,true,true,false,false,false,false,false,false,false,false,false,false,false,false,false,false,false,false] rfl rfl (bH HT_.out (by kernel_rfl)) (fun _ _ _ h=>h) (Or.inl ⟨by rfl,?_⟩) ?_ ?_
               rotate_left
               ·intro w'
                go_simp
                with_reducible rfl
               rotate_left
               ·simp only [Act.put,List.setIfInBounds_toArray,List.set_cons_zero,List.set_cons_succ,bA,bB]
                rfl
               refine bR (i:=13) (N:=some 107) (v:=?_) (a':=?_) #[true,true,true,true,true,true,true,true,true,true,true,true,true,true,false,false,false,false,false,false,false,false,false,false,false,false,false,false,false] rfl rfl (bH HT_.out (by kernel_rfl)) (fun _ _ _ h=>h) (Or.inl ⟨by rfl,?_⟩) ?_ ?_
               rotate_left
               ·intro w'
                go_simp
                with_reducible rfl
               rotate_left
               ·simp only [Act.put,List.setIfInBounds_toArray,List.set_cons_zero,List.set_cons_succ,bA,bB]
                rfl
               refine bR (i:=14) (N:=some 108) (v:=?_) (a':=?_) #[true,true,true,true,true,true,true,true,true,true,true,true,true,true,true,false,false,false,false,false,false,false,false,false,false,false,false,false,false] rfl rfl (bH HT_.out (by kernel_rfl)) (fun _ _ _ h=>h) (Or.inl ⟨by rfl,?_⟩) ?_ ?_
               rotate_left
               ·intro w'
                go_simp
                with_reducible rfl
               rotate_left
               ·simp only [Act.put,List.setIfInBounds_toArray,List.set_cons_zero,List.set_cons_succ,bA,bB]
                rfl
               refine bR (i:=16) (N:=some 110) (v:=?_) (a':=?_) #[true,true,true,true,true,true,true,true,true,true,true,true,true,true,true,false,true,false,false,false,false,false,false,false,false,false,false,false,false] rfl rfl (bH HT_.out (by kernel_rfl)) (fun _ _ _ h=>h) (Or.inl ⟨by rfl,?_⟩) ?_ ?_
               rotate_left
               ·intro w'
                go_simp
                with_reducible rfl
               rotate_left
               ·simp only [Act.put,List.setIfInBounds_toArray,List.set_cons_zero,List.set_cons_succ,bA,bB]
                rfl
               refine bR (i:=20) (N:=some 114) (v:=?_) (a':=?_) #[true,true,true,true,true,true,true,true,true,true,true,true,true,true,true,false,true,false,false,false,true,false,false,false,false,false,false,false,false] rfl rfl (bH HT_.out (by kernel_rfl)) (fun _ _ _ h=>h) (Or.inl ⟨by rfl,?_⟩) ?_ ?_
               rotate_left
               ·intro w'
                go_simp
                with_reducible rfl
               rotate_left
               ·simp only [Act.put,List.setIfInBounds_toArray,List.set_cons_zero,List.set_cons_succ,bA,bB]
                rfl
               refine bR (i:=22) (N:=some 116) (v:=?_) (a':=?_) #[true,true,true,true,true,true,true,true,true,true,true,true,true,true,true,false,true,false,false,false,true,false,true,false,false,false,false,false,false] rfl rfl (bH HT_.out (by kernel_rfl)) (fun _ _ _ h=>h) (Or.inl ⟨by rfl,?_⟩) ?_ ?_
               rotate_left
               ·intro w'
                go_simp
                with_reducible rfl
               rotate_left
               ·simp only [Act.put,List.setIfInBounds_toArray,List.set_cons_zero,List.set_cons_succ,bA,bB]
                rfl
               refine dG (i:=15) (N:=some 109) (v:=?_) (a':=?_) #[true,true,true,true,true,true,true,true,true,true,true,true,true,true,true,true,true,false,false,false,true,false,true,false,false,false,false,false,false] rfl rfl (cu HT_.out HW_.out (by kernel_rfl)) (fun _ _ _ h=>h) (Or.inl ⟨by rfl,?_⟩) hHeld ?_ ?_
               rotate_left
               ·rintro w' ⟨s0,s1,s2,s3,s4,s5,s6,s7,s8,s9,s10,s11,s12,s13,CO,s15,s16,CP,CQ,CS,s20,CU,CV,CW,s24,DK,D5,D6,D7,D8,D9,Ea,Eb,Ec,Ed,Ee,Ef,Eh,Ei,Ej⟩
                go_simp
                with_reducible rfl
               rotate_left
               ·simp only [Act.put,List.setIfInBounds_toArray,List.set_cons_zero,List.set_cons_succ,bA,bB]
                rfl
               refine bR (i:=17) (N:=some 111) (v:=?_) (a':=?_) #[true,true,true,true,true,true,true,true,true,true,true,true,true,true,true,true,true,true,false,false,true,false,true,false,false,false,false,false,false] rfl rfl (bH HT_.out (by kernel_rfl)) (fun _ _ _ h=>h) (Or.inl ⟨by rfl,?_⟩) ?_ ?_
               rotate_left
               ·intro w'
                go_simp
                with_reducible rfl
               rotate_left
               ·simp only [Act.put,List.setIfInBounds_toArray,List.set_cons_zero,List.set_cons_succ,bA,bB]
                rfl
               refine bR (i:=18) (N:=some 112) (v:=?_) (a':=?_) #[true,true,true,true,true,true,true,true,true,true,true,true,true,true,true,true,true,true,true,false,true,false,true,false,false,false,false,false,false] rfl rfl (bH HT_.out (by kernel_rfl)) (fun _ _ _ h=>h) (Or.inl ⟨by rfl,?_⟩) ?_ ?_
               rotate_left
               ·intro w'
                go_simp
                with_reducible rfl
               rotate_left
               ·simp only [Act.put,List.setIfInBounds_toArray,List.set_cons_zero,List.set_cons_succ,bA,bB]
                rfl
               refine dG (i:=19) (N:=some 113) (v:=?_) (a':=?_) #[true,true,true,true,true,true,true,true,true,true,true,true,true,true,true,true,true,true,true,true,true,false,true,false,false,false,false,false,false] rfl rfl (cu HT_.out HW_.out (by kernel_rfl)) (fun _ _ _ h=>h) (Or.inl ⟨by rfl,?_⟩) hHeld ?_ ?_
               rotate_left
               ·rintro w' ⟨s0,s1,s2,s3,s4,s5,s6,s7,s8,s9,s10,s11,s12,s13,CO,s15,s16,CP,CQ,CS,s20,CU,CV,CW,s24,DK,D5,D6,D7,D8,D9,Ea,Eb,Ec,Ed,Ee,Ef,Eh,Ei,Ej⟩
                go_simp
                with_reducible rfl
               rotate_left
               ·simp only [Act.put,List.setIfInBounds_toArray,List.set_cons_zero,List.set_cons_succ,bA,bB]
                rfl
               refine dG (i:=21) (N:=some 115) (v:=?_) (a':=?_) #[true,true,true,true,true,true,true,true,true,true,true,true,true,true,true,true,true,true,true,true,true,true,true,false,false,false,false,false,false] rfl rfl (cu HT_.out HW_.out (by kernel_rfl)) (fun _ _ _ h=>h) (Or.inl ⟨by rfl,?_⟩) hHeld ?_ ?_
               rotate_left
               ·rintro w' ⟨s0,s1,s2,s3,s4,s5,s6,s7,s8,s9,s10,s11,s12,s13,CO,s15,s16,CP,CQ,CS,s20,CU,CV,CW,s24,DK,D5,D6,D7,D8,D9,Ea,Eb,Ec,Ed,Ee,Ef,Eh,Ei,Ej⟩
                go_simp
                with_reducible rfl
               rotate_left
               ·simp only [Act.put,List.setIfInBounds_toArray,List.set_cons_zero,List.set_cons_succ,bA,bB]
                rfl
               refine bR (i:=23) (N:=some 117) (v:=?_) (a':=?_) #[true,true,true,true,true,true,true,true,true,true,true,true,true,true,true,true,true,true,true,true,true,true,true,true,false,false,false,false,false] rfl rfl (bH HT_.out (by kernel_rfl)) (fun _ _ _ h=>h) (Or.inl ⟨by rfl,?_⟩) ?_ ?_
               rotate_left
               ·intro w'
                go_simp
                with_reducible rfl
               rotate_left
               ·simp only [Act.put,List.setIfInBounds_toArray,List.set_cons_zero,List.set_cons_succ,bA,bB]
                rfl
               refine bR (i:=24) (N:=some 118) (v:=?_) (a':=?_) #[true,true,true,true,true,true,true,true,true,true,true,true,true,true,true,true,true,true,true,true,true,true,true,true,true,false,false,false,false] rfl rfl (bH HT_.out (by kernel_rfl)) (fun _ _ _ h=>h) (Or.inl ⟨by rfl,?_⟩) ?_ ?_
               rotate_left
               ·intro w'
                go_simp
                with_reducible rfl
               rotate_left
               ·simp only [Act.put,List.setIfInBounds_toArray,List.set_cons_zero,List.set_cons_succ,bA,bB]
                rfl
               refine dG (i:=25) (N:=some 119) (v:=?_) (a':=?_) #[true,true,true,true,true,true,true,true,true,true,true,true,true,true,true,true,true,true,true,true,true,true,true,true,true,true,false,false,false] rfl rfl (cu HT_.out HW_.out (by kernel_rfl)) (fun _ _ _ h=>h) (Or.inl ⟨by rfl,?_⟩) hHeld ?_ ?_
               rotate_left
               ·rintro w' ⟨s0,s1,s2,s3,s4,s5,s6,s7,s8,s9,s10,s11,s12,s13,CO,s15,s16,CP,CQ,CS,s20,CU,CV,CW,s24,DK,D5,D6,D7,D8,D9,Ea,Eb,Ec,Ed,Ee,Ef,Eh,Ei,Ej⟩
                go_simp
                with_reducible rfl
               rotate_left
               ·simp only [Act.put,List.setIfInBounds_toArray,List.set_cons_zero,List.set_cons_succ,bA,bB]
                rfl
               refine gL (i:=26) (N:=some 120) #[true,true,true,true,true,true,true,true,true,true,true,true,true,true,true,true,true,true,true,true,true,true,true,true,true,true,true,false,false] rfl rfl (dM HT_.out (by kernel_rfl)) (by decide) (fun K hK=>?_)
               refine iT Tryd.func13 (by kernel_rfl) rfl #[.agg #[.int .i64 ((aW xY xV).f1.f0),.bool ((aW xY xV).f1.f1),.int .i64 ((aW xY xV).f1.f2),.string ((aW xY xV).f1.f3),.slice BI ((aW xY xV).f1.f4).length BJ,.slice BK ((aW xY xV).f1.f5).length BL],.agg #[.int .i64 ((aW xZ xV).f1.f0),.bool ((aW xZ xV).f1.f1),.int .i64 ((aW xZ xV).f1.f2),.string ((aW xZ xV).f1.f3),.slice BM ((aW xZ xV).f1.f4).length BN,.slice BO ((aW xZ xV).f1.f5).length BP]] (by rfl) rfl rfl (by (try simp only [List.map_toArray,List.map_cons,List.map_nil]);first|done|rfl|(simp only [List.length_drop,List.length_take];rfl)) ?_
               with_reducible refine (ih k3 (by have:=HJ2.out;have:=EL.out;have:=QK.out;omega) ((aW xY xV).f1.f0) ((aW xY xV).f1.f1) ((aW xY xV).f1.f2) ((aW xY xV).f1.f3) _ _ ((aW xY xV).f1.f4) _ _ ((aW xY xV).f1.f5) ((aW xZ xV).f1.f0) ((aW xZ xV).f1.f1) ((aW xZ xV).f1.f2) ((aW xZ xV).f1.f3) _ _ ((aW xZ xV).f1.f4) _ _ ((aW xZ xV).f1.f5) true _ ?Df ?Dh ?Di ?Dj ?Dk ?Dl ?Dm ?Dn Sw.out).mono ?_
               (case Df=>repeat (first|exact (Kd.bO Cx.out HB.out)|(with_reducible refine Kd.bJ ?_ _)|(with_reducible refine Kd.bL ?_ _)|(with_reducible refine Kd.bS ?_)))
               (case Dh=>exact DC.out)
               (case Di=>repeat (first|exact (Kd.bO Cy.out HB.out)|(with_reducible refine Kd.bJ ?_ _)|(with_reducible refine Kd.bL ?_ _)|(with_reducible refine Kd.bS ?_)))
               (case Dj=>exact DF.out)
               (case Dk=>repeat (first|exact (Kd.bO CJ.out HB.out)|(with_reducible refine Kd.bJ ?_ _)|(with_reducible refine Kd.bL ?_ _)|(with_reducible refine Kd.bS ?_)))
               (case Dl=>exact DI.out)
               (case Dm=>repeat (first|exact (Kd.bO CK.out HB.out)|(with_reducible refine Kd.bJ ?_ _)|(with_reducible refine Kd.bL ?_ _)|(with_reducible refine Kd.bS ?_)))
               (case Dn=>exact DJ.out)
               rintro e SY ⟨rfl,hb⟩
               refine ⟨_,rfl,?_⟩
               have BQ:=Aside0.mk (aU (g:=xW) (o:=.cells #[.int .i64 yc,.bool yA,.int .i64 yw,.string yx,.slice zi yh.length yP,.slice (some yt) xY.length yQ] 33 (0,0)) (bk_ xS.out) hb)
               have BR:=Aside0.mk (aU (g:=xX) (o:=.cells #[.int .i64 yG,.bool yF,.int .i64 yD,.string yE,.slice zP yj.length zw,.slice (some yu) xZ.length zx] 33 (0,0)) (bk_ xU.out) hb)
               have BS:=Aside0.mk (aT (by repeat (first|(with_reducible first|exact HB.out|apply av|apply ak|apply au|refine aD ?_ yH.out|refine aD ?_ yO.out)|exact HB.out)) hb)
               clear xS
               clear xU
               clear HB
               have xS:=BQ
               have xU:=BR
               have HB:=BS
               clear BQ BR BS
               (try clear hb)
               (try clear hb2)
               (try clear hk)
               (try clear hi)
               refine hK.out _ _ ⟨(ah xS.out 0).trans rfl,(ah xS.out 1).trans rfl,(ah xS.out 2).trans rfl,(ah xS.out 3).trans rfl,(ah xS.out 4).trans rfl,(ah xS.out 5).trans rfl,(ah xU.out 0).trans rfl,(ah xU.out 1).trans rfl,(ah xU.out 2).trans rfl,(ah xU.out 3).trans rfl,(ah xU.out 4).trans rfl,(ah xU.out 5).trans rfl,((HB.out.cell (World.block_lt_of_cell? w _ zG)).trans zG),((HB.out.cell (World.block_lt_of_cell? w _ zF)).trans zF),((HB.out.cell (World.block_lt_of_cell? w _ zD)).trans zD),((HB.out.cell (World.block_lt_of_cell? w _ zC)).trans zC),((HB.out.cell (World.block_lt_of_cell? w _ zB)).trans zB),((HB.out.cell (World.block_lt_of_cell? w _ zA)).trans zA),((HB.out.cell (World.block_lt_of_cell? w _ zy)).trans zy),((HB.out.cell (World.block_lt_of_cell? w _ zN)).trans zN),((HB.out.cell (World.block_lt_of_cell? w _ zM)).trans zM),((HB.out.cell (World.block_lt_of_cell? w _ zL)).trans zL),((HB.out.cell (World.block_lt_of_cell? w _ zK)).trans zK),((HB.out.cell (World.block_lt_of_cell? w _ zJ)).trans zJ),((HB.out.cell (World.block_lt_of_cell? w _ zI)).trans zI),((HB.out.cell (World.block_lt_of_cell? w _ zH)).trans zH),((HB.out.cell (World.block_lt_of_cell? w _ Bl)).trans Bl),((HB.out.cell (World.block_lt_of_cell? w _ Bj)).trans Bj),((HB.out.cell (World.block_lt_of_cell? w _ Bh)).trans Bh),((HB.out.cell (World.block_lt_of_cell? w _ Bg)).trans Bg),((HB.out.cell (World.block_lt_of_cell? w _ Bf)).trans Bf),((HB.out.cell (World.block_lt_of_cell? w _ Bd)).trans Bd),((HB.out.cell (World.block_lt_of_cell? w _ Bc)).trans Bc),((HB.out.cell (World.block_lt_of_cell? w _ Bu)).trans Bu),((HB.out.cell (World.block_lt_of_cell? w _ Bt)).trans Bt),((HB.out.cell (World.block_lt_of_cell? w _ Br)).trans Br),((HB.out.cell (World.block_lt_of_cell? w _ Bq)).trans Bq),((HB.out.cell (World.block_lt_of_cell? w _ Bp)).trans Bp),((HB.out.cell (World.block_lt_of_cell? w _ Bo)).trans Bo),((HB.out.cell (World.block_lt_of_cell? w _ Bn)).trans Bn)⟩ (fun hHeld=>?_)
               clear hK K
               refine dL (a':=?_) ?_ ?_
               rotate_left
               ·show Act.put _ (some 120) _ = _
                simp only [Act.put,List.setIfInBounds_toArray,List.set_cons_zero,List.set_cons_succ,bA,bB]
                rfl
               refine bR (i:=27) (N:=some 121) (v:=?_) (a':=?_) #[true,true,true,true,true,true,true,true,true,true,true,true,true,true,true,true,true,true,true,true,true,true,true,true,true,true,true,true,false] rfl rfl (bH HT_.out (by kernel_rfl)) (fun _ _ _ h=>h) (Or.inl ⟨by rfl,?_⟩) ?_ ?_
               rotate_left
               ·intro w'
                go_simp
                with_reducible rfl
               rotate_left
               ·simp only [Act.put,List.setIfInBounds_toArray,List.set_cons_zero,List.set_cons_succ,bA,bB]
                rfl
               refine bR (i:=28) (N:=some 122) (v:=?_) (a':=?_) #[true,true,true,true,true,true,true,true,true,true,true,true,true,true,true,true,true,true,true,true,true,true,true,true,true,true,true,true,true] rfl rfl (bH HT_.out (by kernel_rfl)) (fun _ _ _ h=>h) (Or.inl ⟨by rfl,?_⟩) ?_ ?_
               rotate_left
               ·intro w'
                go_simp
                with_reducible rfl
               rotate_left
               ·simp only [Act.put,List.setIfInBounds_toArray,List.set_cons_zero,List.set_cons_succ,bA,bB]
                rfl
               refine jm (iB HT_.out (by kernel_rfl)) ?_
               try go_wp2
               go_roundg k3
               case measure=>have:=HJ2.out;have:=EL.out;have:=QK.out;omega
               case rel=>exact ⟨(wrap64 (xV + 1)),(by first|rfl|(simp;done)|(simp [*];done)),H',⟨by have:=HJ2.out;have:=EL.out;have:=QK.out;omega⟩,⟨by (with_reducible repeat (first|apply aA|apply aC|apply ay));exact xS.out⟩,⟨by (with_reducible repeat (first|apply aA|apply aC|apply ay));exact xU.out⟩,⟨by repeat (first|(with_reducible first|exact HB.out|apply av|apply ak|apply au|refine aD ?_ yH.out|refine aD ?_ yO.out)|exact HB.out)⟩⟩
              ·replace QM:=Bool.eq_false_iff.mpr QM
               subst QM
               have H1 : (some false) = some r:=by rw [if_neg (show ¬ (false = true) by decide)] at H;exact H
               clear H
               have H:=H1
               clear H1
               obtain rfl:=Option.some.inj H
               have SA:=yB.out
               have SB:=yC.out
               have Q6 : wr.cell? ⟨xW,0,none⟩ = some (.int .i64 yc):=(ah xS.out 0).trans rfl
               have Q7 : wr.cell? ⟨xW,1,none⟩ = some (.bool yA):=(ah xS.out 1).trans rfl
               have Q8 : wr.cell? ⟨xW,2,none⟩ = some (.int .i64 yw):=(ah xS.out 2).trans rfl
               have Q9 : wr.cell? ⟨xW,3,none⟩ = some (.string yx):=(ah xS.out 3).trans rfl
               have Ra : wr.cell? ⟨xW,4,none⟩ = some (.slice zi yh.length yP):=(ah xS.out 4).trans rfl
               have Rb : wr.cell? ⟨xW,5,none⟩ = some (.slice zm xY.length yQ):=(ah xS.out 5).trans rfl
               have Rc:=aj xS.out 0
               have Rf:=aj xS.out 1
               have Rh:=aj xS.out 2
               have Ri:=aj xS.out 3
               have Rj:=aj xS.out 4
               have Rk:=aj xS.out 5
               try go_wp2
               have BQ:=Aside0.mk (aC xS.out)
               have BR:=Aside0.mk (aC xU.out)
               have BS:=Aside0.mk (au HB.out)
               clear xS
               clear xU
               clear HB
               have xS:=BQ
               have xU:=BR
               have HB:=BS
               clear BQ BR BS
               have Dp : 0 ≤ (xV : Int):=of_decide_eq_true (by first|(with_reducible assumption)|assumption)
               have Dq : xV < (xY.length : Int):=of_decide_eq_true (by first|(with_reducible assumption)|assumption)
               obtain ⟨yt,BI,BJ,BK,BL,EG,yT,yU,yV,yX,yY,yI,yJ,Bv,Bw,Bz,BA⟩:=fV DL.out xV Dp Dq
               have zy:=yJ
               have zA:=yI
               have zB:=yY
               have zC:=yX
               have zD:=yV
               have zF:=yU
               have zG:=yT
               cases EG
               replace yT:=(HB.out.cell (World.block_lt_of_cell? w _ yT)).trans yT
               replace yU:=(HB.out.cell (World.block_lt_of_cell? w _ yU)).trans yU
               replace yV:=(HB.out.cell (World.block_lt_of_cell? w _ yV)).trans yV
               replace yX:=(HB.out.cell (World.block_lt_of_cell? w _ yX)).trans yX
               replace yY:=(HB.out.cell (World.block_lt_of_cell? w _ yY)).trans yY
               replace yI:=(HB.out.cell (World.block_lt_of_cell? w _ yI)).trans yI
               replace yJ:=(HB.out.cell (World.block_lt_of_cell? w _ yJ)).trans yJ
               have Cn:=Aside0.mk Bw
               have Em:=Aside0.mk Bv
               clear Bw Bv
               have Co:=Aside0.mk BA
               have En:=Aside0.mk Bz
               clear BA Bz
               replace Dp:=eq_true Dp
               replace Dq:=eq_true Dq
               have Dr : 0 ≤ (xV : Int):=of_decide_eq_true (by first|(with_reducible assumption)|assumption)
               have Dt : xV < (xZ.length : Int):=of_decide_eq_true (by first|(with_reducible assumption)|assumption)
               obtain ⟨yu,BM,BN,BO,BP,e197,yZ,za,ze,zf,zh,yK,yL,BD,BF,BG,BH⟩:=fV DN.out xV Dr Dt
               have zH:=yL
               have zI:=yK
               have zJ:=zh
               have zK:=zf
               have zL:=ze
               have zM:=za
               have zN:=yZ
               cases e197
               replace yZ:=(HB.out.cell (World.block_lt_of_cell? w _ yZ)).trans yZ
               replace za:=(HB.out.cell (World.block_lt_of_cell? w _ za)).trans za
               replace ze:=(HB.out.cell (World.block_lt_of_cell? w _ ze)).trans ze
               replace zf:=(HB.out.cell (World.block_lt_of_cell? w _ zf)).trans zf
               replace zh:=(HB.out.cell (World.block_lt_of_cell? w _ zh)).trans zh
               replace yK:=(HB.out.cell (World.block_lt_of_cell? w _ yK)).trans yK
               replace yL:=(HB.out.cell (World.block_lt_of_cell? w _ yL)).trans yL
               have Cq:=Aside0.mk BF
               have Eo:=Aside0.mk BD
               clear BF BD
               have Cr:=Aside0.mk BH
               have Ep:=Aside0.mk BG
               clear BH BG
               replace Dr:=eq_true Dr
               replace Dt:=eq_true Dt
               have DW : 0 ≤ (xV : Int):=of_decide_eq_true (by first|(with_reducible assumption)|assumption)
               have DX : xV < (xY.length : Int):=of_decide_eq_true (by first|(with_reducible assumption)|assumption)
               obtain ⟨EH,EZ,E5,E8,E9,Fa,Ad,Ae,Af,Ag,Ah,zn,zo,Ct,Cu,Cv,Cw⟩:=fV DL.out xV DW DX
               have Bc:=zo
               have Bd:=zn
               have Bf:=Ah
               have Bg:=Ag
               have Bh:=Af
               have Bj:=Ae
               have Bl:=Ad
               obtain rfl : yt = EH:=(by injection Fa)
               replace Ad:=(HB.out.cell (World.block_lt_of_cell? w _ Ad)).trans Ad
               replace Ae:=(HB.out.cell (World.block_lt_of_cell? w _ Ae)).trans Ae
               replace Af:=(HB.out.cell (World.block_lt_of_cell? w _ Af)).trans Af
               replace Ag:=(HB.out.cell (World.block_lt_of_cell? w _ Ag)).trans Ag
               replace Ah:=(HB.out.cell (World.block_lt_of_cell? w _ Ah)).trans Ah
               replace zn:=(HB.out.cell (World.block_lt_of_cell? w _ zn)).trans zn
               replace zo:=(HB.out.cell (World.block_lt_of_cell? w _ zo)).trans zo
               have Cx:=Aside0.mk Cu
               have DC:=Aside0.mk Ct
               clear Cu Ct
               have Cy:=Aside0.mk Cw
               have DF:=Aside0.mk Cv
               clear Cw Cv
               replace DW:=eq_true DW
               replace DX:=eq_true DX
               have ea_:=Option.some.inj (yI.symm.trans zn)
               injection ea_ with ea_ en_ ec_
               subst ea_
               subst ec_
               clear en_
               have ea_:=Option.some.inj (yJ.symm.trans zo)
               injection ea_ with ea_ en_ ec_
               subst ea_
               subst ec_
               clear en_
               have DY : 0 ≤ (xV : Int):=of_decide_eq_true (by first|(with_reducible assumption)|assumption)
               have DZ : xV < (xZ.length : Int):=of_decide_eq_true (by first|(with_reducible assumption)|assumption)
               obtain ⟨EI,Fb,Fe,Fg,Fh,e199,Ai,Aj,Ak,Al,Am,zq,zu,Cz,CB,CF,CG⟩:=fV DN.out xV DY DZ
               have Bn:=zu
               have Bo:=zq
               have Bp:=Am
               have Bq:=Al
               have Br:=Ak
               have Bt:=Aj
               have Bu:=Ai
               obtain rfl : yu = EI:=(by injection e199)
               replace Ai:=(HB.out.cell (World.block_lt_of_cell? w _ Ai)).trans Ai
               replace Aj:=(HB.out.cell (World.block_lt_of_cell? w _ Aj)).trans Aj
               replace Ak:=(HB.out.cell (World.block_lt_of_cell? w _ Ak)).trans Ak
               replace Al:=(HB.out.cell (World.block_lt_of_cell? w _ Al)).trans Al
               replace Am:=(HB.out.cell (World.block_lt_of_cell? w _ Am)).trans Am
               replace zq:=(HB.out.cell (World.block_lt_of_cell? w _ zq)).trans zq
               replace zu:=(HB.out.cell (World.block_lt_of_cell? w _ zu)).trans zu
               have CJ:=Aside0.mk CB
               have DI:=Aside0.mk Cz
               clear CB Cz
               have CK:=Aside0.mk CG
               have DJ:=Aside0.mk CF
               clear CG CF
               replace DY:=eq_true DY
               replace DZ:=eq_true DZ
               have ea_:=Option.some.inj (yK.symm.trans zq)
               injection ea_ with ea_ en_ ec_
               subst ea_
               subst ec_
               clear en_
               have ea_:=Option.some.inj (yL.symm.trans zu)
               injection ea_ with ea_ en_ ec_
               subst ea_
               subst ec_
               clear en_
               refine iM (n:=29) (S:=fun w'=>w'.cell? ⟨xW,0,none⟩ = some (.int .i64 yc) ∧ w'.cell? ⟨xW,1,none⟩ = some (.bool yA) ∧ w'.cell? ⟨xW,2,none⟩ = some (.int .i64 yw) ∧ w'.cell? ⟨xW,3,none⟩ = some (.string yx) ∧ w'.cell? ⟨xW,4,none⟩ = some (.slice zi yh.length yP) ∧ w'.cell? ⟨xW,5,none⟩ = some (.slice (some yt) xY.length yQ) ∧ w'.cell? ⟨xX,0,none⟩ = some (.int .i64 yG) ∧ w'.cell? ⟨xX,1,none⟩ = some (.bool yF) ∧ w'.cell? ⟨xX,2,none⟩ = some (.int .i64 yD) ∧ w'.cell? ⟨xX,3,none⟩ = some (.string yE) ∧ w'.cell? ⟨xX,4,none⟩ = some (.slice zP yj.length zw) ∧ w'.cell? ⟨xX,5,none⟩ = some (.slice (some yu) xZ.length zx) ∧ w'.cell? (yt.add ((xV).toNat * 7)) = some (.string ((aW xY xV).f0)) ∧ w'.cell? ⟨(yt.add ((xV).toNat * 7)).block,(yt.add ((xV).toNat * 7)).off + 1,none⟩ = some (.int .i64 ((aW xY xV).f1.f0)) ∧ w'.cell? ⟨(yt.add ((xV).toNat * 7)).block,(yt.add ((xV).toNat * 7)).off + 2,none⟩ = some (.bool ((aW xY xV).f1.f1)) ∧ w'.cell? ⟨(yt.add ((xV).toNat * 7)).block,(yt.add ((xV).toNat * 7)).off + 3,none⟩ = some (.int .i64 ((aW xY xV).f1.f2)) ∧ w'.cell? ⟨(yt.add ((xV).toNat * 7)).block,(yt.add ((xV).toNat * 7)).off + 4,none⟩ = some (.string ((aW xY xV).f1.f3)) ∧ w'.cell? ⟨(yt.add ((xV).toNat * 7)).block,(yt.add ((xV).toNat * 7)).off + 5,none⟩ = some (.slice BI ((aW xY xV).f1.f4).length BJ) ∧ w'.cell? ⟨(yt.add ((xV).toNat * 7)).block,(yt.add ((xV).toNat * 7)).off + 6,none⟩ = some (.slice BK ((aW xY xV).f1.f5).length BL) ∧ w'.cell? (yu.add ((xV).toNat * 7)) = some (.string ((aW xZ xV).f0)) ∧ w'.cell? ⟨(yu.add ((xV).toNat * 7)).block,(yu.add ((xV).toNat * 7)).off + 1,none⟩ = some (.int .i64 ((aW xZ xV).f1.f0)) ∧ w'.cell? ⟨(yu.add ((xV).toNat * 7)).block,(yu.add ((xV).toNat * 7)).off + 2,none⟩ = some (.bool ((aW xZ xV).f1.f1)) ∧ w'.cell? ⟨(yu.add ((xV).toNat * 7)).block,(yu.add ((xV).toNat * 7)).off + 3,none⟩ = some (.int .i64 ((aW xZ xV).f1.f2)) ∧ w'.cell? ⟨(yu.add ((xV).toNat * 7)).block,(yu.add ((xV).toNat * 7)).off + 4,none⟩ = some (.string ((aW xZ xV).f1.f3)) ∧ w'.cell? ⟨(yu.add ((xV).toNat * 7)).block,(yu.add ((xV).toNat * 7)).off + 5,none⟩ = some (.slice BM ((aW xZ xV).f1.f4).length BN) ∧ w'.cell? ⟨(yu.add ((xV).toNat * 7)).block,(yu.add ((xV).toNat * 7)).off + 6,none⟩ = some (.slice BO ((aW xZ xV).f1.f5).length BP) ∧ w'.cell? (yt.add ((xV).toNat * 7)) = some (.string ((aW xY xV).f0)) ∧ w'.cell? ⟨(yt.add ((xV).toNat * 7)).block,(yt.add ((xV).toNat * 7)).off + 1,none⟩ = some (.int .i64 ((aW xY xV).f1.f0)) ∧ w'.cell? ⟨(yt.add ((xV).toNat * 7)).block,(yt.add ((xV).toNat * 7)).off + 2,none⟩ = some (.bool ((aW xY xV).f1.f1)) ∧ w'.cell? ⟨(yt.add ((xV).toNat * 7)).block,(yt.add ((xV).toNat * 7)).off + 3,none⟩ = some (.int .i64 ((aW xY xV).f1.f2)) ∧ w'.cell? ⟨(yt.add ((xV).toNat * 7)).block,(yt.add ((xV).toNat * 7)).off + 4,none⟩ = some (.string ((aW xY xV).f1.f3)) ∧ w'.cell? ⟨(yt.add ((xV).toNat * 7)).block,(yt.add ((xV).toNat * 7)).off + 5,none⟩ = some (.slice BI ((aW xY xV).f1.f4).length BJ) ∧ w'.cell? ⟨(yt.add ((xV).toNat * 7)).block,(yt.add ((xV).toNat * 7)).off + 6,none⟩ = some (.slice BK ((aW xY xV).f1.f5).length BL) ∧ w'.cell? (yu.add ((xV).toNat * 7)) = some (.string ((aW xZ xV).f0)) ∧ w'.cell? ⟨(yu.add ((xV).toNat * 7)).block,(yu.add ((xV).toNat * 7)).off + 1,none⟩ = some (.int .i64 ((aW xZ xV).f1.f0)) ∧ w'.cell? ⟨(yu.add ((xV).toNat * 7)).block,(yu.add ((xV).toNat * 7)).off + 2,none⟩ = some (.bool ((aW xZ xV).f1.f1)) ∧ w'.cell? ⟨(yu.add ((xV).toNat * 7)).block,(yu.add ((xV).toNat * 7)).off + 3,none⟩ = some (.int .i64 ((aW xZ xV).f1.f2)) ∧ w'.cell? ⟨(yu.add ((xV).toNat * 7)).block,(yu.add ((xV).toNat * 7)).off + 4,none⟩ = some (.string ((aW xZ xV).f1.f3)) ∧ w'.cell? ⟨(yu.add ((xV).toNat * 7)).block,(yu.add ((xV).toNat * 7)).off + 5,none⟩ = some (.slice BM ((aW xZ xV).f1.f4).length BN) ∧ w'.cell? ⟨(yu.add ((xV).toNat * 7)).block,(yu.add ((xV).toNat * 7)).off + 6,none⟩ = some (.slice BO ((aW xZ xV).f1.f5).length BP)) (ds:=[]) #[false,false,false,false,false,false,false,false,false,false,false,false,false,false,false,false,false,false,false,false,false,false,false,false,false,false,false,false,false] (by kernel_rfl) rfl rfl ⟨(ah xS.out 0).trans rfl,(ah xS.out 1).trans rfl,(ah xS.out 2).trans rfl,(ah xS.out 3).trans rfl,(ah xS.out 4).trans rfl,(ah xS.out 5).trans rfl,(ah xU.out 0).trans rfl,(ah xU.out 1).trans rfl,(ah xU.out 2).trans rfl,(ah xU.out 3).trans rfl,(ah xU.out 4).trans rfl,(ah xU.out 5).trans rfl,((HB.out.cell (World.block_lt_of_cell? w _ zG)).trans zG),((HB.out.cell (World.block_lt_of_cell? w _ zF)).trans zF),((HB.out.cell (World.block_lt_of_cell? w _ zD)).trans zD),((HB.out.cell (World.block_lt_of_cell? w _ zC)).trans zC),((HB.out.cell (World.block_lt_of_cell? w _ zB)).trans zB),((HB.out.cell (World.block_lt_of_cell? w _ zA)).trans zA),((HB.out.cell (World.block_lt_of_cell? w _ zy)).trans zy),((HB.out.cell (World.block_lt_of_cell? w _ zN)).trans zN),((HB.out.cell (World.block_lt_of_cell? w _ zM)).trans zM),((HB.out.cell (World.block_lt_of_cell? w _ zL)).trans zL),((HB.out.cell (World.block_lt_of_cell? w _ zK)).trans zK),((HB.out.cell (World.block_lt_of_cell? w _ zJ)).trans zJ),((HB.out.cell (World.block_lt_of_cell? w _ zI)).trans zI),((HB.out.cell (World.block_lt_of_cell? w _ zH)).trans zH),((HB.out.cell (World.block_lt_of_cell? w _ Bl)).trans Bl),((HB.out.cell (World.block_lt_of_cell? w _ Bj)).trans Bj),((HB.out.cell (World.block_lt_of_cell? w _ Bh)).trans Bh),((HB.out.cell (World.block_lt_of_cell? w _ Bg)).trans Bg),((HB.out.cell (World.block_lt_of_cell? w _ Bf)).trans Bf),((HB.out.cell (World.block_lt_of_cell? w _ Bd)).trans Bd),((HB.out.cell (World.block_lt_of_cell? w _ Bc)).trans Bc),((HB.out.cell (World.block_lt_of_cell? w _ Bu)).trans Bu),((HB.out.cell (World.block_lt_of_cell? w _ Bt)).trans Bt),((HB.out.cell (World.block_lt_of_cell? w _ Br)).trans Br),((HB.out.cell (World.block_lt_of_cell? w _ Bq)).trans Bq),((HB.out.cell (World.block_lt_of_cell? w _ Bp)).trans Bp),((HB.out.cell (World.block_lt_of_cell? w _ Bo)).trans Bo),((HB.out.cell (World.block_lt_of_cell? w _ Bn)).trans Bn)⟩ (fun hHeld=>?_);refine fT aJ.oq aJ.mq (fun HT_ HW_=>?_)
               generalize wr.drew = S9 at xS xU HB Cn Co Cq Cr Cx Cy CJ CK yT yU yV yX yY yI yJ yZ za ze zf zh yK yL Ad Ae Af Ag Ah zn zo Ai Aj Ak Al Am zq zu hHeld ⊢
               refine bR (i:=0) (N:=some 94) (v:=?_) (a':=?_) #[true,false,false,false,false,false,false,false,false,false,false,false,false,false,false,false,false,false,false,false,false,false,false,false,false,false,false,false,false] rfl rfl (bH HT_.out (by kernel_rfl)) (fun _ _ _ h=>h) (Or.inl ⟨by rfl,?_⟩) ?_ ?_
               rotate_left
               ·intro w'
                go_simp
                with_reducible rfl
               rotate_left
               ·simp only [Act.put,List.setIfInBounds_toArray,List.set_cons_zero,List.set_cons_succ,bA,bB]
                rfl
               refine bR (i:=2) (N:=some 96) (v:=?_) (a':=?_) #[true,false,true,false,false,false,false,false,false,false,false,false,false,false,false,false,false,false,false,false,false,false,false,false,false,false,false,false,false] rfl rfl (bH HT_.out (by kernel_rfl)) (fun _ _ _ h=>h) (Or.inl ⟨by rfl,?_⟩) ?_ ?_
               rotate_left
               ·intro w'
                go_simp
                with_reducible rfl
               rotate_left
               ·simp only [Act.put,List.setIfInBounds_toArray,List.set_cons_zero,List.set_cons_succ,bA,bB]
                rfl
               refine bR (i:=6) (N:=some 100) (v:=?_) (a':=?_) #[true,false,true,false,false,false,true,false,false,false,false,false,false,false,false,false,false,false,false,false,false,false,false,false,false,false,false,false,false] rfl rfl (bH HT_.out (by kernel_rfl)) (fun _ _ _ h=>h) (Or.inl ⟨by rfl,?_⟩) ?_ ?_
               rotate_left
               ·intro w'
                go_simp
                with_reducible rfl
               rotate_left
               ·simp only [Act.put,List.setIfInBounds_toArray,List.set_cons_zero,List.set_cons_succ,bA,bB]
                rfl
               refine bR (i:=8) (N:=some 102) (v:=?_) (a':=?_) #[true,false,true,false,false,false,true,false,true,false,false,false,false,false,false,false,false,false,false,false,false,false,false,false,false,false,false,false,false] rfl rfl (bH HT_.out (by kernel_rfl)) (fun _ _ _ h=>h) (Or.inl ⟨by rfl,?_⟩) ?_ ?_
               rotate_left
               ·intro w'
                go_simp
                with_reducible rfl
               rotate_left
               ·simp only [Act.put,List.setIfInBounds_toArray,List.set_cons_zero,List.set_cons_succ,bA,bB]
                rfl
               refine dG (i:=1) (N:=some 95) (v:=?_) (a':=?_) #[true,true,true,false,false,false,true,false,true,false,false,false,false,false,false,false,false,false,false,false,false,false,false,false,false,false,false,false,false] rfl rfl (cu HT_.out HW_.out (by kernel_rfl)) (fun _ _ _ h=>h) (Or.inl ⟨by rfl,?_⟩) hHeld ?_ ?_
               rotate_left
               ·rintro w' ⟨s0,s1,s2,s3,s4,s5,s6,s7,s8,s9,s10,s11,s12,s13,CO,s15,s16,CP,CQ,CS,s20,CU,CV,CW,s24,DK,D5,D6,D7,D8,D9,Ea,Eb,Ec,Ed,Ee,Ef,Eh,Ei,Ej⟩
                go_simp
                with_reducible rfl
               rotate_left
               ·simp only [Act.put,List.setIfInBounds_toArray,List.set_cons_zero,List.set_cons_succ,bA,bB]
                rfl
               refine bR (i:=3) (N:=some 97) (v:=?_) (a':=?_) #[true,true,true,true,false,false,true,false,true,false,false,false,false,false,false,false,false,false,false,false,false,false,false,false,false,false,false,false,false] rfl rfl (bH HT_.out (by kernel_rfl)) (fun _ _ _ h=>h) (Or.inl ⟨by rfl,?_⟩) ?_ ?_
               rotate_left
               ·intro w'
                go_simp
                with_reducible rfl
               rotate_left
               ·simp only [Act.put,List.setIfInBounds_toArray,List.set_cons_zero,List.set_cons_succ,bA,bB]
                rfl
               refine bR (i:=4) (N:=some 98) (v:=?_) (a':=?_) #[true,true,true,true,true,false,true,false,true,false,false,false,false,false,false,false,false,false,false,false,false,false,false,false,false,false,false,false,false] rfl rfl (bH HT_.out (by kernel_rfl)) (fun _ _ _ h=>h) (Or.inl ⟨by rfl,?_⟩) ?_ ?_
               rotate_left
               ·intro w'
                go_simp
                with_reducible rfl
               rotate_left
               ·simp only [Act.put,List.setIfInBounds_toArray,List.set_cons_zero,List.set_cons_succ,bA,bB]
                rfl
               refine dG (i:=5) (N:=some 99) (v:=?_) (a':=?_) #[true,true,true,true,true,true,true,false,true,false,false,false,false,false,false,false,false,false,false,false,false,false,false,false,false,false,false,false,false] rfl rfl (cu HT_.out HW_.out (by kernel_rfl)) (fun _ _ _ h=>h) (Or.inl ⟨by rfl,?_⟩) hHeld ?_ ?_
               rotate_left
               ·rintro w' ⟨s0,s1,s2,s3,s4,s5,s6,s7,s8,s9,s10,s11,s12,s13,CO,s15,s16,CP,CQ,CS,s20,CU,CV,CW,s24,DK,D5,D6,D7,D8,D9,Ea,Eb,Ec,Ed,Ee,Ef,Eh,Ei,Ej⟩
                go_simp
                with_reducible rfl
               rotate_left
               ·simp only [Act.put,List.setIfInBounds_toArray,List.set_cons_zero,List.set_cons_succ,bA,bB]
                rfl
               refine dG (i:=7) (N:=some 101) (v:=?_) (a':=?_) #[true,true,true,true,true,true,true,true,true,false,false,false,false,false,false,false,false,false,false,false,false,false,false,false,false,false,false,false,false] rfl rfl (cu HT_.out HW_.out (by kernel_rfl)) (fun _ _ _ h=>h) (Or.inl ⟨by rfl,?_⟩) hHeld ?_ ?_
               rotate_left
               ·rintro w' ⟨s0,s1,s2,s3,s4,s5,s6,s7,s8,s9,s10,s11,s12,s13,CO,s15,s16,CP,CQ,CS,s20,CU,CV,CW,s24,DK,D5,D6,D7,D8,D9,Ea,Eb,Ec,Ed,Ee,Ef,Eh,Ei,Ej⟩
                go_simp
                with_reducible rfl
               rotate_left
               ·simp only [Act.put,List.setIfInBounds_toArray,List.set_cons_zero,List.set_cons_succ,bA,bB]
                rfl
               refine bR (i:=9) (N:=some 103) (v:=?_) (a':=?_) #[true,true,true,true,true,true,true,true,true,true,false,false,false,false,false,false,false,false,false,false,false,false,false,false,false,false,false,false,false] rfl rfl (bH HT_.out (by kernel_rfl)) (fun _ _ _ h=>h) (Or.inl ⟨by rfl,?_⟩) ?_ ?_
               rotate_left
               ·intro w'
                go_simp
                with_reducible rfl
               rotate_left
               ·simp only [Act.put,List.setIfInBounds_toArray,List.set_cons_zero,List.set_cons_succ,bA,bB]
                rfl
               refine bR (i:=10) (N:=some 104) (v:=?_) (a':=?_) #[true,true,true,true,true,true,true,true,true,true,true,false,false,false,false,false,false,false,false,false,false,false,false,false,false,false,false,false,false] rfl rfl (bH HT_.out (by kernel_rfl)) (fun _ _ _ h=>h) (Or.inl ⟨by rfl,?_⟩) ?_ ?_
               rotate_left
               ·intro w'
                go_simp
                with_reducible rfl
               rotate_left
               ·simp only [Act.put,List.setIfInBounds_toArray,List.set_cons_zero,List.set_cons_succ,bA,bB]
                rfl
               refine dG (i:=11) (N:=some 105) (v:=?_) (a':=?_) #[true,true,true,true,true,true,true,true,true,true,true,true,false,false,false,false,false,false,false,false,false,false,false,false,false,false,false,false,false] rfl rfl (cu HT_.out HW_.out (by kernel_rfl)) (fun _ _ _ h=>h) (Or.inl ⟨by rfl,?_⟩) hHeld ?_ ?_
               rotate_left
               ·rintro w' ⟨s0,s1,s2,s3,s4,s5,s6,s7,s8,s9,s10,s11,s12,s13,CO,s15,s16,CP,CQ,CS,s20,CU,CV,CW,s24,DK,D5,D6,D7,D8,D9,Ea,Eb,Ec,Ed,Ee,Ef,Eh,Ei,Ej⟩
                go_simp
                with_reducible rfl
               rotate_left
               ·simp only [Act.put,List.setIfInBounds_toArray,List.set_cons_zero,List.set_cons_succ,bA,bB]
                rfl
               refine bR (i:=12) (N:=some 106) (v:=?_) (a':=?_) #[true,true,true,true,true,true,true,true,true,true,true,true,true,false,false,false,false,false,false,false,false,false,false,false,false,false,false,false,false] rfl rfl (bH HT_.out (by kernel_rfl)) (fun _ _ _ h=>h) (Or.inl ⟨by rfl,?_⟩) ?_ ?_
               rotate_left
               ·intro w'
                go_simp
                with_reducible rfl
               rotate_left
               ·simp only [Act.put,List.setIfInBounds_toArray,List.set_cons_zero,List.set_cons_succ,bA,bB]
                rfl
               refine bR (i:=13) (N:=some 107) (v:=?_) (a':=?_) #[true,true,true,true,true,true,true,true,true,true,true,true,true,true,false,false,false,false,false,false,false,false,false,false,false,false,false,false,false] rfl rfl (bH HT_.out (by kernel_rfl)) (fun _ _ _ h=>h) (Or.inl ⟨by rfl,?_⟩) ?_ ?_
               rotate_left
               ·intro w'
                go_simp
                with_reducible rfl
               rotate_left
               ·simp only [Act.put,List.setIfInBounds_toArray,List.set_cons_zero,List.set_cons_succ,bA,bB]
                rfl
               refine bR (i:=14) (N:=some 108) (v:=?_) (a':=?_) #[true,true,true,true,true,true,true,true,true,true,true,true,true,true,true,false,false,false,false,false,false,false,false,false,false,false,false,false,false] rfl rfl (bH HT_.out (by kernel_rfl)) (fun _ _ _ h=>h) (Or.inl ⟨by rfl,?_⟩) ?_ ?_
               rotate_left
               ·intro w'
                go_simp
                with_reducible rfl
               rotate_left
               ·simp only [Act.put,List.setIfInBounds_toArray,List.set_cons_zero,List.set_cons_succ,bA,bB]
                rfl
               refine bR (i:=16) (N:=some 110) (v:=?_) (a':=?_) #[true,true,true,true,true,true,true,true,true,true,true,true,true,true,true,false,true,false,false,false,false,false,false,false,false,false,false,false,false] rfl rfl (bH HT_.out (by kernel_rfl)) (fun _ _ _ h=>h) (Or.inl ⟨by rfl,?_⟩) ?_ ?_
               rotate_left
               ·intro w'
                go_simp
                with_reducible rfl
               rotate_left
               ·simp only [Act.put,List.setIfInBounds_toArray,List.set_cons_zero,List.set_cons_succ,bA,bB]
                rfl
               refine bR (i:=20) (N:=some 114) (v:=?_) (a':=?_) #[true,true,true,true,true,true,true,true,true,true,true,true,true,true,true,false,true,false,false,false,true,false,false,false,false,false,false,false,false] rfl rfl (bH HT_.out (by kernel_rfl)) (fun _ _ _ h=>h) (Or.inl ⟨by rfl,?_⟩) ?_ ?_
               rotate_left
               ·intro w'
                go_simp
                with_reducible rfl
               rotate_left
               ·simp only [Act.put,List.setIfInBounds_toArray,List.set_cons_zero,List.set_cons_succ,bA,bB]
                rfl
               refine bR (i:=22) (N:=some 116) (v:=?_) (a':=?_) #[true,true,true,true,true,true,true,true,true,true,true,true,true,true,true,false,true,false,false,false,true,false,true,false,false,false,false,false,false] rfl rfl (bH HT_.out (by kernel_rfl)) (fun _ _ _ h=>h) (Or.inl ⟨by rfl,?_⟩) ?_ ?_
               rotate_left
               ·intro w'
                go_simp
                with_reducible rfl
               rotate_left
               ·simp only [Act.put,List.setIfInBounds_toArray,List.set_cons_zero,List.set_cons_succ,bA,bB]
                rfl
               refine dG (i:=15) (N:=some 109) (v:=?_) (a':=?_) #[true,true,true,true,true,true,true,true,true,true,true,true,true,true,true,true,true,false,false,false,true,false,true,false,false,false,false,false,false] rfl rfl (cu HT_.out HW_.out (by kernel_rfl)) (fun _ _ _ h=>h) (Or.inl ⟨by rfl,?_⟩) hHeld ?_ ?_
               rotate_left
               ·rintro w' ⟨s0,s1,s2,s3,s4,s5,s6,s7,s8,s9,s10,s11,s12,s13,CO,s15,s16,CP,CQ,CS,s20,CU,CV,CW,s24,DK,D5,D6,D7,D8,D9,Ea,Eb,Ec,Ed,Ee,Ef,Eh,Ei,Ej⟩
                go_simp
                with_reducible rfl
               rotate_left
               ·simp only [Act.put,List.setIfInBounds_toArray,List.set_cons_zero,List.set_cons_succ,bA,bB]
                rfl
               refine bR (i:=17) (N:=some 111) (v:=?_) (a':=?_) #[true,true,true,true,true,true,true,true,true,true,true,true,true,true,true,true,true,true,false,false,true,false,true,false,false,false,false,false,false] rfl rfl (bH HT_.out (by kernel_rfl)) (fun _ _ _ h=>h) (Or.inl ⟨by rfl,?_⟩) ?_ ?_
               rotate_left
               ·intro w'
                go_simp
                with_reducible rfl
               rotate_left
               ·simp only [Act.put,List.setIfInBounds_toArray,List.set_cons_zero,List.set_cons_succ,bA,bB]
                rfl
               refine bR (i:=18) (N:=some 112) (v:=?_) (a':=?_) #[true,true,true,true,true,true,true,true,true,true,true,true,true,true,true,true,true,true,true,false,true,false,true,false,false,false,false,false,false] rfl rfl (bH HT_.out (by kernel_rfl)) (fun _ _ _ h=>h) (Or.inl ⟨by rfl,?_⟩) ?_ ?_
               rotate_left
               ·intro w'
                go_simp
                with_reducible rfl
               rotate_left
               ·simp only [Act.put,List.setIfInBounds_toArray,List.set_cons_zero,List.set_cons_succ,bA,bB]
                rfl
               refine dG (i:=19) (N:=some 113) (v:=?_) (a':=?_) #[true,true,true,true,true,true,true,true,true,true,true,true,true,true,true,true,true,true,true,true,true,false,true,false,false,false,false,false,false] rfl rfl (cu HT_.out HW_.out (by kernel_rfl)) (fun _ _ _ h=>h) (Or.inl ⟨by rfl,?_⟩) hHeld ?_ ?_
               rotate_left
               ·rintro w' ⟨s0,s1,s2,s3,s4,s5,s6,s7,s8,s9,s10,s11,s12,s13,CO,s15,s16,CP,CQ,CS,s20,CU,CV,CW,s24,DK,D5,D6,D7,D8,D9,Ea,Eb,Ec,Ed,Ee,Ef,Eh,Ei,Ej⟩
                go_simp
                with_reducible rfl
               rotate_left
               ·simp only [Act.put,List.setIfInBounds_toArray,List.set_cons_zero,List.set_cons_succ,bA,bB]
                rfl
               refine dG (i:=21) (N:=some 115) (v:=?_) (a':=?_) #[true,true,true,true,true,true,true,true,true,true,true,true,true,true,true,true,true,true,true,true,true,true,true,false,false,false,false,false,false] rfl rfl (cu HT_.out HW_.out (by kernel_rfl)) (fun _ _ _ h=>h) (Or.inl ⟨by rfl,?_⟩) hHeld ?_ ?_
               rotate_left
               ·rintro w' ⟨s0,s1,s2,s3,s4,s5,s6,s7,s8,s9,s10,s11,s12,s13,CO,s15,s16,CP,CQ,CS,s20,CU,CV,CW,s24,DK,D5,D6,D7,D8,D9,Ea,Eb,Ec,Ed,Ee,Ef,Eh,Ei,Ej⟩
                go_simp
                with_reducible rfl
               rotate_left
               ·simp only [Act.put,List.setIfInBounds_toArray,List.set_cons_zero,List.set_cons_succ,bA,bB]
                rfl
               refine bR (i:=23) (N:=some 117) (v:=?_) (a':=?_) #[true,true,true,true,true,true,true,true,true,true,true,true,true,true,true,true,true,true,true,true,true,true,true,true,false,false,false,false,false] rfl rfl (bH HT_.out (by kernel_rfl)) (fun _ _ _ h=>h) (Or.inl ⟨by rfl,?_⟩) ?_ ?_
               rotate_left
               ·intro w'
                go_simp
                with_reducible rfl
               rotate_left
               ·simp only [Act.put,List.setIfInBounds_toArray,List.set_cons_zero,List.set_cons_succ,bA,bB]
                rfl
               refine bR (i:=24) (N:=some 118) (v:=?_) (a':=?_) #[true,true,true,true,true,true,true,true,true,true,true,true,true,true,true,true,true,true,true,true,true,true,true,true,true,false,false,false,false] rfl rfl (bH HT_.out (by kernel_rfl)) (fun _ _ _ h=>h) (Or.inl ⟨by rfl,?_⟩) ?_ ?_
               rotate_left
               ·intro w'
                go_simp
                with_reducible rfl
               rotate_left
               ·simp only [Act.put,List.setIfInBounds_toArray,List.set_cons_zero,List.set_cons_succ,bA,bB]
                rfl
               refine dG (i:=25) (N:=some 119) (v:=?_) (a':=?_) #[true,true,true,true,true,true,true,true,true,true,true,true,true,true,true,true,true,true,true,true,true,true,true,true,true,true,false,false,false] rfl rfl (cu HT_.out HW_.out (by kernel_rfl)) (fun _ _ _ h=>h) (Or.inl ⟨by rfl,?_⟩) hHeld ?_ ?_
               rotate_left
               ·rintro w' ⟨s0,s1,s2,s3,s4,s5,s6,s7,s8,s9,s10,s11,s12,s13,CO,s15,s16,CP,CQ,CS,s20,CU,CV,CW,s24,DK,D5,D6,D7,D8,D9,Ea,Eb,Ec,Ed,Ee,Ef,Eh,Ei,Ej⟩
                go_simp
                with_reducible rfl
               rotate_left
               ·simp only [Act.put,List.setIfInBounds_toArray,List.set_cons_zero,List.set_cons_succ,bA,bB]
                rfl
               refine gL (i:=26) (N:=some 120) #[true,true,true,true,true,true,true,true,true,true,true,true,true,true,true,true,true,true,true,true,true,true,true,true,true,true,true,false,false] rfl rfl (dM HT_.out (by kernel_rfl)) (by decide) (fun K hK=>?_)
               refine iT Tryd.func13 (by kernel_rfl) rfl #[.agg #[.int .i64 ((aW xY xV).f1.f0),.bool ((aW xY xV).f1.f1),.int .i64 ((aW xY xV).f1.f2),.string ((aW xY xV).f1.f3),.slice BI ((aW xY xV).f1.f4).length BJ,.slice BK ((aW xY xV).f1.f5).length BL],.agg #[.int .i64 ((aW xZ xV).f1.f0),.bool ((aW xZ xV).f1.f1),.int .i64 ((aW xZ xV).f1.f2),.string ((aW xZ xV).f1.f3),.slice BM ((aW xZ xV).f1.f4).length BN,.slice BO ((aW xZ xV).f1.f5).length BP]] (by rfl) rfl rfl (by (try simp only [List.map_toArray,List.map_cons,List.map_nil]);first|done|rfl|(simp only [List.length_drop,List.length_take];rfl)) ?_
               with_reducible refine (ih k3 (by have:=HJ2.out;have:=EL.out;have:=QK.out;omega) ((aW xY xV).f1.f0) ((aW xY xV).f1.f1) ((aW xY xV).f1.f2) ((aW xY xV).f1.f3) _ _ ((aW xY xV).f1.f4) _ _ ((aW xY xV).f1.f5) ((aW xZ xV).f1.f0) ((aW xZ xV).f1.f1) ((aW xZ xV).f1.f2) ((aW xZ xV).f1.f3) _ _ ((aW xZ xV).f1.f4) _ _ ((aW xZ xV).f1.f5) false _ ?Df ?Dh ?Di ?Dj ?Dk ?Dl ?Dm ?Dn Sw.out).mono ?_
               (case Df=>repeat (first|exact (Kd.bO Cx.out HB.out)|(with_reducible refine Kd.bJ ?_ _)|(with_reducible refine Kd.bL ?_ _)|(with_reducible refine Kd.bS ?_)))
               (case Dh=>exact DC.out)
               (case Di=>repeat (first|exact (Kd.bO Cy.out HB.out)|(with_reducible refine Kd.bJ ?_ _)|(with_reducible refine Kd.bL ?_ _)|(with_reducible refine Kd.bS ?_)))
               (case Dj=>exact DF.out)
               (case Dk=>repeat (first|exact (Kd.bO CJ.out HB.out)|(with_reducible refine Kd.bJ ?_ _)|(with_reducible refine Kd.bL ?_ _)|(with_reducible refine Kd.bS ?_)))
               (case Dl=>exact DI.out)
               (case Dm=>repeat (first|exact (Kd.bO CK.out HB.out)|(with_reducible refine Kd.bJ ?_ _)|(with_reducible refine Kd.bL ?_ _)|(with_reducible refine Kd.bS ?_)))
               (case Dn=>exact DJ.out)
               rintro e Ta ⟨rfl,hb⟩
               refine ⟨_,rfl,?_⟩
               have BQ:=Aside0.mk (aU (g:=xW) (o:=.cells #[.int .i64 yc,.bool yA,.int .i64 yw,.string yx,.slice zi yh.length yP,.slice (some yt) xY.length yQ] 33 (0,0)) (bk_ xS.out) hb)
               have BR:=Aside0.mk (aU (g:=xX) (o:=.cells #[.int .i64 yG,.bool yF,.int .i64 yD,.string yE,.slice zP yj.length zw,.slice (some yu) xZ.length zx] 33 (0,0)) (bk_ xU.out) hb)
               have BS:=Aside0.mk (aT (by repeat (first|(with_reducible first|exact HB.out|apply av|apply ak|apply au|refine aD ?_ yH.out|refine aD ?_ yO.out)|exact HB.out)) hb)
               clear xS
               clear xU
               clear HB
               have xS:=BQ
               have xU:=BR
               have HB:=BS
               clear BQ BR BS
               (try clear hb)
               (try clear hb2)
               (try clear hk)
               (try clear hi)
               refine hK.out _ _ ⟨(ah xS.out 0).trans rfl,(ah xS.out 1).trans rfl,(ah xS.out 2).trans rfl,(ah xS.out 3).trans rfl,(ah xS.out 4).trans rfl,(ah xS.out 5).trans rfl,(ah xU.out 0).trans rfl,(ah xU.out 1).trans rfl,(ah xU.out 2).trans rfl,(ah xU.out 3).trans rfl,(ah xU.out 4).trans rfl,(ah xU.out 5).trans rfl,((HB.out.cell (World.block_lt_of_cell? w _ zG)).trans zG),((HB.out.cell (World.block_lt_of_cell? w _ zF)).trans zF),((HB.out.cell (World.block_lt_of_cell? w _ zD)).trans zD),((HB.out.cell (World.block_lt_of_cell? w _ zC)).trans zC),((HB.out.cell (World.block_lt_of_cell? w _ zB)).trans zB),((HB.out.cell (World.block_lt_of_cell? w _ zA)).trans zA),((HB.out.cell (World.block_lt_of_cell? w _ zy)).trans zy),((HB.out.cell (World.block_lt_of_cell? w _ zN)).trans zN),((HB.out.cell (World.block_lt_of_cell? w _ zM)).trans zM),((HB.out.cell (World.block_lt_of_cell? w _ zL)).trans zL),((HB.out.cell (World.block_lt_of_cell? w _ zK)).trans zK),((HB.out.cell (World.block_lt_of_cell? w _ zJ)).trans zJ),((HB.out.cell (World.block_lt_of_cell? w _ zI)).trans zI),((HB.out.cell (World.block_lt_of_cell? w _ zH)).trans zH),((HB.out.cell (World.block_lt_of_cell? w _ Bl)).trans Bl),((HB.out.cell (World.block_lt_of_cell? w _ Bj)).trans Bj),((HB.out.cell (World.block_lt_of_cell? w _ Bh)).trans Bh),((HB.out.cell (World.block_lt_of_cell? w _ Bg)).trans Bg),((HB.out.cell (World.block_lt_of_cell? w _ Bf)).trans Bf),((HB.out.cell (World.block_lt_of_cell? w _ Bd)).trans Bd),((HB.out.cell (World.block_lt_of_cell? w _ Bc)).trans Bc),((HB.out.cell (World.block_lt_of_cell? w _ Bu)).trans Bu),((HB.out.cell (World.block_lt_of_cell? w _ Bt)).trans Bt),((HB.out.cell (World.block_lt_of_cell? w _ Br)).trans Br),((HB.out.cell (World.block_lt_of_cell? w _ Bq)).trans Bq),((HB.out.cell (World.block_lt_of_cell? w _ Bp)).trans Bp),((HB.out.cell (World.block_lt_of_cell? w _ Bo)).trans Bo),((HB.out.cell (World.block_lt_of_cell? w _ Bn)).trans Bn)⟩ (fun hHeld=>?_)
               clear hK K
               refine dL (a':=?_) ?_ ?_
               rotate_left
               ·show Act.put _ (some 120) _ = _
                simp only [Act.put,List.setIfInBounds_toArray,List.set_cons_zero,List.set_cons_succ,bA,bB]
                rfl
               refine bR (i:=27) (N:=some 121) (v:=?_) (a':=?_) #[true,true,true,true,true,true,true,true,true,true,true,true,true,true,true,true,true,true,true,true,true,true,true,true,true,true,true,true,false] rfl rfl (bH HT_.out (by kernel_rfl)) (fun _ _ _ h=>h) (Or.inl ⟨by rfl,?_⟩) ?_ ?_
               rotate_left
               ·intro w'
                go_simp
                with_reducible rfl
               rotate_left
               ·simp only [Act.put,List.setIfInBounds_toArray,List.set_cons_zero,List.set_cons_succ,bA,bB]
                rfl
               refine bR (i:=28) (N:=some 122) (v:=?_) (a':=?_) #[true,true,true,true,true,true,true,true,true,true,true,true,true,true,true,true,true,true,true,true,true,true,true,true,true,true,true,true,true] rfl rfl (bH HT_.out (by kernel_rfl)) (fun _ _ _ h=>h) (Or.inl ⟨by rfl,?_⟩) ?_ ?_
               rotate_left
               ·intro w'
                go_simp
                with_reducible rfl
               rotate_left
               ·simp only [Act.put,List.setIfInBounds_toArray,List.set_cons_zero,List.set_cons_succ,bA,bB]
                rfl
               refine jm (iB HT_.out (by kernel_rfl)) ?_
               try go_wp2
               go_ret
               exact ⟨by first|rfl|(simp [bg,bn] <;> rfl)|(simp [*,bg,bn] <;> rfl),by repeat (first|(with_reducible first|exact HB.out|apply av|apply ak|apply au|refine aD ?_ yH.out|refine aD ?_ yO.out)|exact HB.out)⟩
             ·rw [if_neg EW] at H
              have c88b0 : (((aW xY xV).f0).toList == ((aW xZ xV).f0).toList) = false:=beq_eq_false_iff_ne.mpr EW
              have c88b1 : (((aW xY xV).f0).toList != ((aW xZ xV).f0).toList) = true:=bne_iff_ne.mpr EW
              obtain rfl:=Option.some.inj H
              have SC:=yB.out
              have SE:=yC.out
              have Fy : wr.cell? ⟨xW,0,none⟩ = some (.int .i64 yc):=(ah xS.out 0).trans rfl
              have Fz : wr.cell? ⟨xW,1,none⟩ = some (.bool yA):=(ah xS.out 1).trans rfl
              have FB : wr.cell? ⟨xW,2,none⟩ = some (.int .i64 yw):=(ah xS.out 2).trans rfl
              have FC : wr.cell? ⟨xW,3,none⟩ = some (.string yx):=(ah xS.out 3).trans rfl
              have FD : wr.cell? ⟨xW,4,none⟩ = some (.slice zi yh.length yP):=(ah xS.out 4).trans rfl
              have FE : wr.cell? ⟨xW,5,none⟩ = some (.slice zm xY.length yQ):=(ah xS.out 5).trans rfl
              have FH:=aj xS.out 0
              have FI:=aj xS.out 1
              have FJ:=aj xS.out 2
              have FL:=aj xS.out 3
              have FM:=aj xS.out 4
              have FN:=aj xS.out 5
              try go_wp2
              have BQ:=Aside0.mk (aC xS.out)
              have BR:=Aside0.mk (aC xU.out)
              have BS:=Aside0.mk (au HB.out)
              clear xS
              clear xU
              clear HB
              have xS:=BQ
              have xU:=BR
              have HB:=BS
              clear BQ BR BS
              have Dp : 0 ≤ (xV : Int):=of_decide_eq_true (by first|(with_reducible assumption)|assumption)
              have Dq : xV < (xY.length : Int):=of_decide_eq_true (by first|(with_reducible assumption)|assumption)
              obtain ⟨yt,BI,BJ,BK,BL,EG,yT,yU,yV,yX,yY,yI,yJ,Bv,Bw,Bz,BA⟩:=fV DL.out xV Dp Dq
              have zy:=yJ
              have zA:=yI
              have zB:=yY
              have zC:=yX
              have zD:=yV
              have zF:=yU
              have zG:=yT
              cases EG
              replace yT:=(HB.out.cell (World.block_lt_of_cell? w _ yT)).trans yT
              replace yU:=(HB.out.cell (World.block_lt_of_cell? w _ yU)).trans yU
              replace yV:=(HB.out.cell (World.block_lt_of_cell? w _ yV)).trans yV
              replace yX:=(HB.out.cell (World.block_lt_of_cell? w _ yX)).trans yX
              replace yY:=(HB.out.cell (World.block_lt_of_cell? w _ yY)).trans yY
              replace yI:=(HB.out.cell (World.block_lt_of_cell? w _ yI)).trans yI
              replace yJ:=(HB.out.cell (World.block_lt_of_cell? w _ yJ)).trans yJ
              have Cn:=Aside0.mk Bw
              have Em:=Aside0.mk Bv
              clear Bw Bv
              have Co:=Aside0.mk BA
              have En:=Aside0.mk Bz
              clear BA Bz
              replace Dp:=eq_true Dp
              replace Dq:=eq_true Dq
              have Dr : 0 ≤ (xV : Int):=of_decide_eq_true (by first|(with_reducible assumption)|assumption)
              have Dt : xV < (xZ.length : Int):=of_decide_eq_true (by first|(with_reducible assumption)|assumption)
              obtain ⟨yu,BM,BN,BO,BP,e197,yZ,za,ze,zf,zh,yK,yL,BD,BF,BG,BH⟩:=fV DN.out xV Dr Dt
              have zH:=yL
              have zI:=yK
              have zJ:=zh
              have zK:=zf
              have zL:=ze
              have zM:=za
              have zN:=yZ
              cases e197
              replace yZ:=(HB.out.cell (World.block_lt_of_cell? w _ yZ)).trans yZ
              replace za:=(HB.out.cell (World.block_lt_of_cell? w _ za)).trans za
              replace ze:=(HB.out.cell (World.block_lt_of_cell? w _ ze)).trans ze
              replace zf:=(HB.out.cell (World.block_lt_of_cell? w _ zf)).trans zf
              replace zh:=(HB.out.cell (World.block_lt_of_cell? w _ zh)).trans zh
              replace yK:=(HB.out.cell (World.block_lt_of_cell? w _ yK)).trans yK
              replace yL:=(HB.out.cell (World.block_lt_of_cell? w _ yL)).trans yL
              have Cq:=Aside0.mk BF
              have Eo:=Aside0.mk BD
              clear BF BD
              have Cr:=Aside0.mk BH
              have Ep:=Aside0.mk BG
              clear BH BG
              replace Dr:=eq_true Dr
              replace Dt:=eq_true Dt
              refine iM (n:=29) (S:=fun w'=>w'.cell? ⟨xW,0,none⟩ = some (.int .i64 yc) ∧ w'.cell? ⟨xW,1,none⟩ = some (.bool yA) ∧ w'.cell? ⟨xW,2,none⟩ = some (.int .i64 yw) ∧ w'.cell? ⟨xW,3,none⟩ = some (.string yx) ∧ w'.cell? ⟨xW,4,none⟩ = some (.slice zi yh.length yP) ∧ w'.cell? ⟨xW,5,none⟩ = some (.slice (some yt) xY.length yQ) ∧ w'.cell? ⟨xX,0,none⟩ = some (.int .i64 yG) ∧ w'.cell? ⟨xX,1,none⟩ = some (.bool yF) ∧ w'.cell? ⟨xX,2,none⟩ = some (.int .i64 yD) ∧ w'.cell? ⟨xX,3,none⟩ = some (.string yE) ∧ w'.cell? ⟨xX,4,none⟩ = some (.slice zP yj.length zw) ∧ w'.cell? ⟨xX,5,none⟩ = some (.slice (some yu) xZ.length zx) ∧ w'.cell? (yt.add ((xV).toNat * 7)) = some (.string ((aW xY xV).f0)) ∧ w'.cell? ⟨(yt.add ((xV).toNat * 7)).block,(yt.add ((xV).toNat * 7)).off + 1,none⟩ = some (.int .i64 ((aW xY xV).f1.f0)) ∧ w'.cell? ⟨(yt.add ((xV).toNat * 7)).block,(yt.add ((xV).toNat * 7)).off + 2,none⟩ = some (.bool ((aW xY xV).f1.f1)) ∧ w'.cell? ⟨(yt.add ((xV).toNat * 7)).block,(yt.add ((xV).toNat * 7)).off + 3,none⟩ = some (.int .i64 ((aW xY xV).f1.f2)) ∧ w'.cell? ⟨(yt.add ((xV).toNat * 7)).block,(yt.add ((xV).toNat * 7)).off + 4,none⟩ = some (.string ((aW xY xV).f1.f3)) ∧ w'.cell? ⟨(yt.add ((xV).toNat * 7)).block,(yt.add ((xV).toNat * 7)).off + 5,none⟩ = some (.slice BI ((aW xY xV).f1.f4).length BJ) ∧ w'.cell? ⟨(yt.add ((xV).toNat * 7)).block,(yt.add ((xV).toNat * 7)).off + 6,none⟩ = some (.slice BK ((aW xY xV).f1.f5).length BL) ∧ w'.cell? (yu.add ((xV).toNat * 7)) = some (.string ((aW xZ xV).f0)) ∧ w'.cell? ⟨(yu.add ((xV).toNat * 7)).block,(yu.add ((xV).toNat * 7)).off + 1,none⟩ = some (.int .i64 ((aW xZ xV).f1.f0)) ∧ w'.cell? ⟨(yu.add ((xV).toNat * 7)).block,(yu.add ((xV).toNat * 7)).off + 2,none⟩ = some (.bool ((aW xZ xV).f1.f1)) ∧ w'.cell? ⟨(yu.add ((xV).toNat * 7)).block,(yu.add ((xV).toNat * 7)).off + 3,none⟩ = some (.int .i64 ((aW xZ xV).f1.f2)) ∧ w'.cell? ⟨(yu.add ((xV).toNat * 7)).block,(yu.add ((xV).toNat * 7)).off + 4,none⟩ = some (.string ((aW xZ xV).f1.f3)) ∧ w'.cell? ⟨(yu.add ((xV).toNat * 7)).block,(yu.add ((xV).toNat * 7)).off + 5,none⟩ = some (.slice BM ((aW xZ xV).f1.f4).length BN) ∧ w'.cell? ⟨(yu.add ((xV).toNat * 7)).block,(yu.add ((xV).toNat * 7)).off + 6,none⟩ = some (.slice BO ((aW xZ xV).f1.f5).length BP)) (ds:=[]) #[false,false,false,false,false,false,false,false,false,false,false,false,false,false,false,false,false,false,false,false,false,false,false,false,false,false,false,false,false] (by kernel_rfl) rfl rfl ⟨(ah xS.out 0).trans rfl,(ah xS.out 1).trans rfl,(ah xS.out 2).trans rfl,(ah xS.out 3).trans rfl,(ah xS.out 4).trans rfl,(ah xS.out 5).trans rfl,(ah xU.out 0).trans rfl,(ah xU.out 1).trans rfl,(ah xU.out 2).trans rfl,(ah xU.out 3).trans rfl,(ah xU.out 4).trans rfl,(ah xU.out 5).trans rfl,((HB.out.cell (World.block_lt_of_cell? w _ zG)).trans zG),((HB.out.cell (World.block_lt_of_cell? w _ zF)).trans zF),((HB.out.cell (World.block_lt_of_cell? w _ zD)).trans zD),((HB.out.cell (World.block_lt_of_cell? w _ zC)).trans zC),((HB.out.cell (World.block_lt_of_cell? w _ zB)).trans zB),((HB.out.cell (World.block_lt_of_cell? w _ zA)).trans zA),((HB.out.cell (World.block_lt_of_cell? w _ zy)).trans zy),((HB.out.cell (World.block_lt_of_cell? w _ zN)).trans zN),((HB.out.cell (World.block_lt_of_cell? w _ zM)).trans zM),((HB.out.cell (World.block_lt_of_cell? w _ zL)).trans zL),((HB.out.cell (World.block_lt_of_cell? w _ zK)).trans zK),((HB.out.cell (World.block_lt_of_cell? w _ zJ)).trans zJ),((HB.out.cell (World.block_lt_of_cell? w _ zI)).trans zI),((HB.out.cell (World.block_lt_of_cell? w _ zH)).trans zH)⟩ (fun hHeld=>?_);refine fT aJ.oq aJ.mq (fun HT_ HW_=>?_)
              generalize wr.drew = SK at xS xU HB Cn Co Cq Cr yT yU yV yX yY yI yJ yZ za ze zf zh yK yL hHeld ⊢
              refine bR (i:=0) (N:=some 94) (v:=?_) (a':=?_) #[true,false,false,false,false,false,false,false,false,false,false,false,false,false,false,false,false,false,false,false,false,false,false,false,false,false,false,false,false] rfl rfl (bH HT_.out (by kernel_rfl)) (fun _ _ _ h=>h) (Or.inl ⟨by rfl,?_⟩) ?_ ?_
              rotate_left
              ·intro w'
               go_simp
               with_reducible rfl
              rotate_left
              ·simp only [Act.put,List.setIfInBounds_toArray,List.set_cons_zero,List.set_cons_succ,bA,bB]
               rfl
              refine bR (i:=2) (N:=some 96) (v:=?_) (a':=?_) #[true,false,true,false,false,false,false,false,false,false,false,false,false,false,false,false,false,false,false,false,false,false,false,false,false,false,false,false,false] rfl rfl (bH HT_.out (by kernel_rfl)) (fun _ _ _ h=>h) (Or.inl ⟨by rfl,?_⟩) ?_ ?_
              rotate_left
              ·intro w'
               go_simp
               with_reducible rfl
              rotate_left
              ·simp only [Act.put,List.setIfInBounds_toArray,List.set_cons_zero,List.set_cons_succ,bA,bB]
               rfl
              refine bR (i:=6) (N:=some 100) (v:=?_) (a':=?_) #[true,false,true,false,false,false,true,false,false,false,false,false,false,false,false,false,false,false,false,false,false,false,false,false,false,false,false,false,false] rfl rfl (bH HT_.out (by kernel_rfl)) (fun _ _ _ h=>h) (Or.inl ⟨by rfl,?_⟩) ?_ ?_
              rotate_left
              ·intro w'
               go_simp
               with_reducible rfl
              rotate_left
              ·simp only [Act.put,List.setIfInBounds_toArray,List.set_cons_zero,List.set_cons_succ,bA,bB]
               rfl
              refine bR (i:=8) (N:=some 102) (v:=?_) (a':=?_) #[true,false,true,false,false,false,true,false,true,false,false,false,false,false,false,false,false,false,false,false,false,false,false,false,false,false,false,false,false] rfl rfl (bH HT_.out (by kernel_rfl)) (fun _ _ _ h=>h) (Or.inl ⟨by rfl,?_⟩) ?_ ?_
              rotate_left
              ·intro w'
               go_simp
               with_reducible rfl
              rotate_left
              ·simp only [Act.put,List.setIfInBounds_toArray,List.set_cons_zero,List.set_cons_succ,bA,bB]
               rfl
              refine dG (i:=1) (N:=some 95) (v:=?_) (a':=?_) #[true,true,true,false,false,false,true,false,true,false,false,false,false,false,false,false,false,false,false,false,false,false,false,false,false,false,false,false,false] rfl rfl (cu HT_.out HW_.out (by kernel_rfl)) (fun _ _ _ h=>h) (Or.inl ⟨by rfl,?_⟩) hHeld ?_ ?_
              rotate_left
              ·rintro w' ⟨s0,s1,s2,s3,s4,s5,s6,s7,s8,s9,s10,s11,s12,s13,CO,s15,s16,CP,CQ,CS,s20,CU,CV,CW,s24,DK⟩
               go_simp
               with_reducible rfl
              rotate_left
              ·simp only [Act.put,List.setIfInBounds_toArray,List.set_cons_zero,List.set_cons_succ,bA,bB]
               rfl
              refine bR (i:=3) (N:=some 97) (v:=?_) (a':=?_) #[true,true,true,true,false,false,true,false,true,false,false,false,false,false,false,false,false,false,false,false,false,false,false,false,false,false,false,false,false] rfl rfl (bH HT_.out (by kernel_rfl)) (fun _ _ _ h=>h) (Or.inl ⟨by rfl,?_⟩) ?_ ?_
              rotate_left
              ·intro w'
               go_simp
               with_reducible rfl
              rotate_left
              ·simp only [Act.put,List.setIfInBounds_toArray,List.set_cons_zero,List.set_cons_succ,bA,bB]
               rfl
              refine bR (i:=4) (N:=some 98) (v:=?_) (a':=?_) #[true,true,true,true,true,false,true,false,true,false,false,false,false,false,false,false,false,false,false,false,false,false,false,false,false,false,false,false,false] rfl rfl (bH HT_.out (by kernel_rfl)) (fun _ _ _ h=>h) (Or.inl ⟨by rfl,?_⟩) ?_ ?_
              rotate_left
              ·intro w'
               go_simp
               with_reducible rfl
              rotate_left
              ·simp only [Act.put,List.setIfInBounds_toArray,List.set_cons_zero,List.set_cons_succ,bA,bB]
               rfl
              refine dG (i:=5) (N:=some 99) (v:=?_) (a':=?_) #[true,true,true,true,true,true,true,false,true,false,false,false,false,false,false,false,false,false,false,false,false,false,false,false,false,false,false,false,false] rfl rfl (cu HT_.out HW_.out (by kernel_rfl)) (fun _ _ _ h=>h) (Or.inl ⟨by rfl,?_⟩) hHeld ?_ ?_
              rotate_left
              ·rintro w' ⟨s0,s1,s2,s3,s4,s5,s6,s7,s8,s9,s10,s11,s12,s13,CO,s15,s16,CP,CQ,CS,s20,CU,CV,CW,s24,DK⟩
               go_simp
               with_reducible rfl
              rotate_left
              ·simp only [Act.put,List.setIfInBounds_toArray,List.set_cons_zero,List.set_cons_succ,bA,bB]
               rfl
              refine dG (i:=7) (N:=some 101) (v:=?_) (a':=?_) #[true,true,true,true,true,true,true,true,true,false,false,false,false,false,false,false,false,false,false,false,false,false,false,false,false,false,false,false,false] rfl rfl (cu HT_.out HW_.out (by kernel_rfl)) (fun _ _ _ h=>h) (Or.inl ⟨by rfl,?_⟩) hHeld ?_ ?_
              rotate_left
              ·rintro w' ⟨s0,s1,s2,s3,s4,s5,s6,s7,s8,s9,s10,s11,s12,s13,CO,s15,s16,CP,CQ,CS,s20,CU,CV,CW,s24,DK⟩
               go_simp
               with_reducible rfl
              rotate_left
              ·simp only [Act.put,List.setIfInBounds_toArray,List.set_cons_zero,List.set_cons_succ,bA,bB]
               rfl
              refine bR (i:=9) (N:=some 103) (v:=?_) (a':=?_) #[true,true,true,true,true,true,true,true,true,true,false,false,false,false,false,false,false,false,false,false,false,false,false,false,false,false,false,false,false] rfl rfl (bH HT_.out (by kernel_rfl)) (fun _ _ _ h=>h) (Or.inl ⟨by rfl,?_⟩) ?_ ?_
              rotate_left
              ·intro w'
               go_simp
               with_reducible rfl
              rotate_left
              ·simp only [Act.put,List.setIfInBounds_toArray,List.set_cons_zero,List.set_cons_succ,bA,bB]
               rfl
              refine bR (i:=10) (N:=some 104) (v:=?_) (a':=?_) #[true,true,true,true,true,true,true,true,true,true,true,false,false,false,false,false,false,false,false,false,false,false,false,false,false,false,false,false,false] rfl rfl (bH HT_.out (by kernel_rfl)) (fun _ _ _ h=>h) (Or.inl ⟨by rfl,?_⟩) ?_ ?_
              rotate_left
              ·intro w'
               go_simp
               with_reducible rfl
              rotate_left
              ·simp only [Act.put,List.setIfInBounds_toArray,List.set_cons_zero,List.set_cons_succ,bA,bB]
               rfl
              refine dG (i:=11) (N:=some 105) (v:=?_) (a':=?_) #[true,true,true,true,true,true,true,true,true,true,true,true,false,false,false,false,false,false,false,false,false,false,false,false,false,false,false,false,false] rfl rfl (cu HT_.out HW_.out (by kernel_rfl)) (fun _ _ _ h=>h) (Or.inl ⟨by rfl,?_⟩) hHeld ?_ ?_
              rotate_left
              ·rintro w' ⟨s0,s1,s2,s3,s4,s5,s6,s7,s8,s9,s10,s11,s12,s13,CO,s15,s16,CP,CQ,CS,s20,CU,CV,CW,s24,DK⟩
               go_simp
               with_reducible rfl
              rotate_left
              ·simp only [Act.put,List.setIfInBounds_toArray,List.set_cons_zero,List.set_cons_succ,bA,bB]
               rfl
              refine bR (i:=12) (N:=some 106) (v:=?_) (a':=?_) #[true,true,true,true,true,true,true,true,true,true,true,true,true,false,false,false,false,false,false,false,false,false,false,false,false,false,false,false,false] rfl rfl (bH HT_.out (by kernel_rfl)) (fun _ _ _ h=>h) (Or.inl ⟨by rfl,?_⟩) ?_ ?_
              rotate_left
              ·intro w'
               go_simp
               with_reducible rfl
              rotate_left
              ·simp only [Act.put,List.setIfInBounds_toArray,List.set_cons_zero,List.set_cons_succ,bA,bB]
               rfl
              refine bR (i:=13) (N:=some 107) (v:=?_) (a':=?_) #[true,true,true,true,true,true,true,true,true,true,true,true,true,true,false,false,false,false,false,false,false,false,false,false,false,false,false,false,false] rfl rfl (bH HT_.out (by kernel_rfl)) (fun _ _ _ h=>h) (Or.inl ⟨by rfl,?_⟩) ?_ ?_
              rotate_left
              ·intro w'
               go_simp
               with_reducible rfl
              rotate_left
              ·simp only [Act.put,List.setIfInBounds_toArray,List.set_cons_zero,List.set_cons_succ,bA,bB]
               rfl
              refine bR (i:=14) (N:=some 108) (v:=undef) (a':=?_) #[true,true,true,true,true,true,true,true,true,true,true,true,true,true,true,false,false,false,false,false,false,false,false,false,false,false,false,false,false] rfl rfl (bH HT_.out (by kernel_rfl)) (fun _ _ _ h=>h) (Or.inr ⟨by rfl,rfl⟩) ?_ ?_
              rotate_left
              ·simp only [Act.put,List.setIfInBounds_toArray,List.set_cons_zero,List.set_cons_succ,bA,bB]
               rfl
              refine bR (i:=15) (N:=some 109) (v:=undef) (a':=?_) #[true,true,true,true,true,true,true,true,true,true,true,true,true,true,true,true,false,false,false,false,false,false,false,false,false,false,false,false,false] rfl rfl (bH HT_.out (by kernel_rfl)) (fun _ _ _ h=>h) (Or.inr ⟨by rfl,rfl⟩) ?_ ?_
              rotate_left
              ·simp only [Act.put,List.setIfInBounds_toArray,List.set_cons_zero,List.set_cons_succ,bA,bB]
               rfl
              refine bR (i:=16) (N:=some 110) (v:=undef) (a':=?_) #[true,true,true,true,true,true,true,true,true,true,true,true,true,true,true,true,true,false,false,false,false,false,false,false,false,false,false,false,false] rfl rfl (bH HT_.out (by kernel_rfl)) (fun _ _ _ h=>h) (Or.inr ⟨by rfl,rfl⟩) ?_ ?_
              rotate_left
              ·simp only [Act.put,List.setIfInBounds_toArray,List.set_cons_zero,List.set_cons_succ,bA,bB]
               rfl
              refine bR (i:=17) (N:=some 111) (v:=undef) (a':=?_) #[true,true,true,true,true,true,true,true,true,true,true,true,true,true,true,true,true,true,false,false,false,false,false,false,false,false,false,false,false] rfl rfl (bH HT_.out (by kernel_rfl)) (fun _ _ _ h=>h) (Or.inr ⟨by rfl,rfl⟩) ?_ ?_
              rotate_left
              ·simp only [Act.put,List.setIfInBounds_toArray,List.set_cons_zero,List.set_cons_succ,bA,bB]
               rfl
              refine bR (i:=18) (N:=some 112) (v:=undef) (a':=?_) #[true,true,true,true,true,true,true,true,true,true,true,true,true,true,true,true,true,true,true,false,false,false,false,false,false,false,false,false,false] rfl rfl (bH HT_.out (by kernel_rfl)) (fun _ _ _ h=>h) (Or.inr ⟨by rfl,rfl⟩) ?_ ?_
              rotate_left
              ·simp only [Act.put,List.setIfInBounds_toArray,List.set_cons_zero,List.set_cons_succ,bA,bB]
               rfl
              refine bR (i:=19) (N:=some 113) (v:=undef) (a':=?_) #[true,true,true,true,true,true,true,true,true,true,true,true,true,true,true,true,true,true,true,true,false,false,false,false,false,false,false,false,false] rfl rfl (bH HT_.out (by kernel_rfl)) (fun _ _ _ h=>h) (Or.inr ⟨by rfl,rfl⟩) ?_ ?_
              rotate_left
              ·simp only [Act.put,List.setIfInBounds_toArray,List.set_cons_zero,List.set_cons_succ,bA,bB]
               rfl
              refine bR (i:=20) (N:=some 114) (v:=undef) (a':=?_) #[true,true,true,true,true,true,true,true,true,true,true,true,true,true,true,true,true,true,true,true,true,false,false,false,false,false,false,false,false] rfl rfl (bH HT_.out (by kernel_rfl)) (fun _ _ _ h=>h) (Or.inr ⟨by rfl,rfl⟩) ?_ ?_
              rotate_left
              ·simp only [Act.put,List.setIfInBounds_toArray,List.set_cons_zero,List.set_cons_succ,bA,bB]
               rfl
              refine bR (i:=21) (N:=some 115) (v:=undef) (a':=?_) #[true,true,true,true,true,true,true,true,true,true,true,true,true,true,true,true,true,true,true,true,true,true,false,false,false,false,false,false,false] rfl rfl (bH HT_.out (by kernel_rfl)) (fun _ _ _ h=>h) (Or.inr ⟨by rfl,rfl⟩) ?_ ?_
              rotate_left
              ·simp only [Act.put,List.setIfInBounds_toArray,List.set_cons_zero,List.set_cons_succ,bA,bB]
               rfl
              refine bR (i:=22) (N:=some 116) (v:=undef) (a':=?_) #[true,true,true,true,true,true,true,true,true,true,true,true,true,true,true,true,true,true,true,true,true,true,true,false,false,false,false,false,false] rfl rfl (bH HT_.out (by kernel_rfl)) (fun _ _ _ h=>h) (Or.inr ⟨by rfl,rfl⟩) ?_ ?_
              rotate_left
              ·simp only [Act.put,List.setIfInBounds_toArray,List.set_cons_zero,List.set_cons_succ,bA,bB]
               rfl
              refine bR (i:=23) (N:=some 117) (v:=undef) (a':=?_) #[true,true,true,true,true,true,true,true,true,true,true,true,true,true,true,true,true,true,true,true,true,true,true,true,false,false,false,false,false] rfl rfl (bH HT_.out (by kernel_rfl)) (fun _ _ _ h=>h) (Or.inr ⟨by rfl,rfl⟩) ?_ ?_
              rotate_left
              ·simp only [Act.put,List.setIfInBounds_toArray,List.set_cons_zero,List.set_cons_succ,bA,bB]
               rfl
              refine bR (i:=24) (N:=some 118) (v:=undef) (a':=?_) #[true,true,true,true,true,true,true,true,true,true,true,true,true,true,true,true,true,true,true,true,true,true,true,true,true,false,false,false,false] rfl rfl (bH HT_.out (by kernel_rfl)) (fun _ _ _ h=>h) (Or.inr ⟨by rfl,rfl⟩) ?_ ?_
              rotate_left
              ·simp only [Act.put,List.setIfInBounds_toArray,List.set_cons_zero,List.set_cons_succ,bA,bB]
               rfl
              refine bR (i:=25) (N:=some 119) (v:=undef) (a':=?_) #[true,true,true,true,true,true,true,true,true,true,true,true,true,true,true,true,true,true,true,true,true,true,true,true,true,true,false,false,false] rfl rfl (bH HT_.out (by kernel_rfl)) (fun _ _ _ h=>h) (Or.inr ⟨by rfl,rfl⟩) ?_ ?_
              rotate_left
              ·simp only [Act.put,List.setIfInBounds_toArray,List.set_cons_zero,List.set_cons_succ,bA,bB]
               rfl
              refine bR (i:=26) (N:=some 120) (v:=undef) (a':=?_) #[true,true,true,true,true,true,true,true,true,true,true,true,true,true,true,true,true,true,true,true,true,true,true,true,true,true,true,false,false] rfl rfl (bH HT_.out (by kernel_rfl)) (fun _ _ _ h=>h) (Or.inr ⟨by rfl,rfl⟩) ?_ ?_
              rotate_left
              ·simp only [Act.put,List.setIfInBounds_toArray,List.set_cons_zero,List.set_cons_succ,bA,bB]
               rfl
              refine bR (i:=27) (N:=some 121) (v:=undef) (a':=?_) #[true,true,true,true,true,true,true,true,true,true,true,true,true,true,true,true,true,true,true,true,true,true,true,true,true,true,true,true,false] rfl rfl (bH HT_.out (by kernel_rfl)) (fun _ _ _ h=>h) (Or.inr ⟨by rfl,rfl⟩) ?_ ?_
              rotate_left
              ·simp only [Act.put,List.setIfInBounds_toArray,List.set_cons_zero,List.set_cons_succ,bA,bB]
               rfl
              refine bR (i:=28) (N:=some 122) (v:=?_) (a':=?_) #[true,true,true,true,true,true,true,true,true,true,true,true,true,true,true,true,true,true,true,true,true,true,true,true,true,true,true,true,true] rfl rfl (bH HT_.out (by kernel_rfl)) (fun _ _ _ h=>h) (Or.inl ⟨by rfl,?_⟩) ?_ ?_
              rotate_left
              ·intro w'
               go_simp
               with_reducible rfl
              rotate_left
              ·simp only [Act.put,List.setIfInBounds_toArray,List.set_cons_zero,List.set_cons_succ,bA,bB]
               rfl
              refine jm (iB HT_.out (by kernel_rfl)) ?_
              try go_wp2
              go_ret
              exact ⟨by first|rfl|(simp [bg,bn] <;> rfl)|(simp [*,bg,bn] <;> rfl),by repeat (first|(with_reducible first|exact HB.out|apply av|apply ak|apply au|refine aD ?_ yH.out|refine aD ?_ yO.out)|exact HB.out)⟩
            ·rw [if_neg c87] at H
             exact absurd H (by simp)
           ·rw [if_neg QL] at H
            exact absurd H (by simp)
          ·rw [if_neg c85] at H
           have c85b0 : decide (xV < (xY.length : Int)) = false:=decide_eq_false c85
           clear c85
           obtain rfl:=Option.some.inj H
           have Rm:=yB.out
           have Rn:=yC.out
           have FP : wr.cell? ⟨xW,0,none⟩ = some (.int .i64 yc):=(ah xS.out 0).trans rfl
           have FQ : wr.cell? ⟨xW,1,none⟩ = some (.bool yA):=(ah xS.out 1).trans rfl
           have FR : wr.cell? ⟨xW,2,none⟩ = some (.int .i64 yw):=(ah xS.out 2).trans rfl
           have FU : wr.cell? ⟨xW,3,none⟩ = some (.string yx):=(ah xS.out 3).trans rfl
           have FV : wr.cell? ⟨xW,4,none⟩ = some (.slice zi yh.length yP):=(ah xS.out 4).trans rfl
           have FW : wr.cell? ⟨xW,5,none⟩ = some (.slice zm xY.length yQ):=(ah xS.out 5).trans rfl
           have FX:=aj xS.out 0
           have FY:=aj xS.out 1
           have FZ:=aj xS.out 2
           have F3:=aj xS.out 3
           have F6:=aj xS.out 4
           have F7:=aj xS.out 5
           go_wp2
           go_ret
           exact ⟨by first|rfl|(simp [bg,bn] <;> rfl)|(simp [*,bg,bn] <;> rfl),by repeat (first|(with_reducible first|exact HB.out|apply av|apply ak|apply au|refine aD ?_ yH.out|refine aD ?_ yO.out)|exact HB.out)⟩
       ·rw [if_neg EF] at H
        have c81b0 : ((xY.length : Int) == (xZ.length : Int)) = false:=beq_eq_false_iff_ne.mpr EF
        have c81b1 : ((xY.length : Int) != (xZ.length : Int)) = true:=bne_iff_ne.mpr EF
        have c81b2 : (xY.length == xZ.length) = false:=by first|simpa using EF|(simp at EF ⊢;omega)
        obtain rfl:=Option.some.inj H
        have Ro:=yB.out
        have Rp:=yC.out
        have F8 : wc.cell? ⟨xW,0,none⟩ = some (.int .i64 yc):=(ah xS.out 0).trans rfl
        have F9 : wc.cell? ⟨xW,1,none⟩ = some (.bool yA):=(ah xS.out 1).trans rfl
        have Ga : wc.cell? ⟨xW,2,none⟩ = some (.int .i64 yw):=(ah xS.out 2).trans rfl
        have Gb : wc.cell? ⟨xW,3,none⟩ = some (.string yx):=(ah xS.out 3).trans rfl
        have Gc : wc.cell? ⟨xW,4,none⟩ = some (.slice zi yh.length yP):=(ah xS.out 4).trans rfl
        have Gd : wc.cell? ⟨xW,5,none⟩ = some (.slice zm xY.length yQ):=(ah xS.out 5).trans rfl
        have Gf:=aj xS.out 0
        have Gg:=aj xS.out 1
        have Gh:=aj xS.out 2
        have Gi:=aj xS.out 3
        have Gj:=aj xS.out 4
        have Gl:=aj xS.out 5
        have Gm : wc.cell? ⟨xX,0,none⟩ = some (.int .i64 yG):=(ah xU.out 0).trans rfl
        have Gn : wc.cell? ⟨xX,1,none⟩ = some (.bool yF):=(ah xU.out 1).trans rfl
        have Gp : wc.cell? ⟨xX,2,none⟩ = some (.int .i64 yD):=(ah xU.out 2).trans rfl
        have Gq : wc.cell? ⟨xX,3,none⟩ = some (.string yE):=(ah xU.out 3).trans rfl
        have Gr : wc.cell? ⟨xX,4,none⟩ = some (.slice zP yj.length zw):=(ah xU.out 4).trans rfl
        have Gs : wc.cell? ⟨xX,5,none⟩ = some (.slice Ao xZ.length zx):=(ah xU.out 5).trans rfl
        have Gt:=aj xU.out 0
        have Gu:=aj xU.out 1
        have Gv:=aj xU.out 2
        have Gw:=aj xU.out 3
        have Gx:=aj xU.out 4
        have Gy:=aj xU.out 5
        go_wp2
        go_ret
        exact ⟨by first|rfl|(simp [bg,bn] <;> rfl)|(simp [*,bg,bn] <;> rfl),by repeat (first|(with_reducible first|exact HB.out|apply av|apply ak|apply au|refine aD ?_ yH.out|refine aD ?_ yO.out)|exact HB.out)⟩
      ·rw [if_neg c80] at H
       have c80b0 : (yc == 5) = false:=beq_eq_false_iff_ne.mpr c80
       have c80b1 : (yc != 5) = true:=bne_iff_ne.mpr c80
       obtain rfl:=Option.some.inj H
       have Rq:=yB.out
       have Rs:=yC.out
       have Gz : wc.cell? ⟨xW,0,none⟩ = some (.int .i64 yc):=(ah xS.out 0).trans rfl
       have GA : wc.cell? ⟨xW,1,none⟩ = some (.bool yA):=(ah xS.out 1).trans rfl
       have GD : wc.cell? ⟨xW,2,none⟩ = some (.int .i64 yw):=(ah xS.out 2).trans rfl
       have GH : wc.cell? ⟨xW,3,none⟩ = some (.string yx):=(ah xS.out 3).trans rfl
       have GI : wc.cell? ⟨xW,4,none⟩ = some (.slice zi yh.length yP):=(ah xS.out 4).trans rfl
       have GJ : wc.cell? ⟨xW,5,none⟩ = some (.slice zm xY.length yQ):=(ah xS.out 5).trans rfl
       have GK:=aj xS.out 0
       have GL:=aj xS.out 1
       have GN:=aj xS.out 2
       have GQ:=aj xS.out 3
       have GR:=aj xS.out 4
       have GU:=aj xS.out 5
       go_wp2
       go_ret
       exact ⟨by first|rfl|(simp [bg,bn] <;> rfl)|(simp [*,bg,bn] <;> rfl),by repeat (first|(with_reducible first|exact HB.out|apply av|apply ak|apply au|refine aD ?_ yH.out|refine aD ?_ yO.out)|exact HB.out)⟩
end Go.Proofs.YtnkkbiabloodaaaDoor.GVa
