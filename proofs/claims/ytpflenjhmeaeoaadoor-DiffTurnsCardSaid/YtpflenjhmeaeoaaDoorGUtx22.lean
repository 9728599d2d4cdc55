/- Written by this session's own program (wip/gen.py) out of the translation: plain Lean functions of the Go functions, and proofs that the calls come to their answers. No conditions beside those in the statements. -/
import Derived.Test.YtpflenjhmeaeoaaDoorCp
import Derived.Test.YtpflenjhmeaeoaaDoorDtTwo
import Derived.Test.YtpflenjhmeaeoaaDoorGUtx0
import Derived.Test.YtpflenjhmeaeoaaDoorGUtx4
import Derived.Test.YtpflenjhmeaeoaaDoorGUtx6
import Derived.Test.YtpflenjhmeaeoaaDoorGUtx20
import Derived.Test.YtpflenjhmeaeoaaDoorGUtx21
import Derived.Test.YtpflenjhmeaeoaaDoorGUtOfs
import Derived.Test.YtpflenjhmeaeoaaDoorGUtRSame
import Derived.Test.YtpflenjhmeaeoaaDoorGW
namespace Go.Proofs.YtpflenjhmeaeoaaDoor.GUt
open Go.RowKit Go.Proofs.YtpflenjhmeaeoaaDoorW.PrintWords Go.Proofs.YtpflenjhmeaeoaaDoorW.PrintLast Go.Proofs.YtpflenjhmeaeoaaDoorW.PrintMore
attribute [local go_sem] fC fD gu gD eP eT fE fF
set_option linter.unusedVariables false
set_option linter.unusedSimpArgs false
mutual
def ak.j0 : Nat → Bool → Int → List (S102) → Int → List (S102) → Option (Bool)
 | 0,_,_,_,_,_=>none
 | k + 1,x29,BN,BO,BU,BX=>if x29 = true then ((bJ.f k).bind fun Gg=>(some Gg)) else ((aA.f k BN BO BU BX).bind fun AO=>((aA.f k BU BX BN BO).bind fun Bu=>((aA.f k BN BO BN BO).bind fun CK=>(if (CK.length : Int) = 0 then (ak.j1 k AO Bu ((AO.length : Int) != (Bu.length : Int)) BN BO BU BX) else (ak.j1 k AO Bu true BN BO BU BX)))))
def ak.j1 : Nat → List (S65) → List (S65) → Bool → Int → List (S102) → Int → List (S102) → Option (Bool)
 | 0,_,_,_,_,_,_,_=>none
 | k + 1,x5,x6,Pg,BN,BO,BU,BX=>if Pg = true then (some false) else (ak.l0 k x5 x6 (x5.length : Int) 0 BN BO BU BX)
def ak.l0 : Nat → List (S65) → List (S65) → Int → Int → Int → List (S102) → Int → List (S102) → Option (Bool)
 | 0,_,_,_,_,_,_,_,_=>none
 | k + 1,x5,x6,NQ,Gz,BN,BO,BU,BX=>if Gz < NQ then (if 0 ≤ Gz then (if Gz < (x5.length : Int) then (if Gz < (x6.length : Int) then (if ((dB x5 Gz).f1).toList = ((dB x6 Gz).f1).toList then (if (wrap64 (((dB x5 Gz).f0) + ((dB x6 Gz).f0))) = 2 then (ak.l0 k x5 x6 NQ (wrap64 (Gz + 1)) BN BO BU BX) else (some false)) else (some false)) else (none)) else (none)) else (none)) else ((dL.f BN BO).bind fun Gm=>((dL.f BU BX).bind fun DK=>(ak.l1 k x5 ((Gm.2.length : Int) == (DK.2.length : Int)) 0 Gm.1 Gm.2 DK.1 DK.2)))
def ak.l1 : Nat → List (S65) → Bool → Int → Int → List (S71) → Int → List (S71) → Option (Bool)
 | 0,_,_,_,_,_,_,_=>none
 | k + 1,x5,x10,Ea,Dw,BK,Dx,BL=>if x10 = true then (if Ea < (BK.length : Int) then (if 0 ≤ Ea then (if Ea < (BL.length : Int) then (if ((aK BK Ea).f0).toList = ((aK BL Ea).f0).toList then ((bB.f k ((aK BK Ea).f1.f0) ((aK BK Ea).f1.f1) ((aK BK Ea).f1.f2) ((aK BK Ea).f1.f3) ((aK BK Ea).f1.f4) ((aK BK Ea).f1.f5) ((aK BL Ea).f1.f0) ((aK BL Ea).f1.f1) ((aK BL Ea).f1.f2) ((aK BL Ea).f1.f3) ((aK BL Ea).f1.f4) ((aK BL Ea).f1.f5)).bind fun Fg=>(ak.l1 k x5 Fg (wrap64 (Ea + 1)) Dw BK Dx BL)) else (ak.l1 k x5 false (wrap64 (Ea + 1)) Dw BK Dx BL)) else (none)) else (none)) else ((bJ.f k).bind fun Gh=>(if Gh = true then (if (x10 == ((x5.length : Int) == 0)) = true then ((aI.f k Dw BK Dx BL).bind fun D5=>(if D5 = true then (some ((x5.length : Int) == 0)) else (some true))) else (some false)) else (some false)))) else ((bJ.f k).bind fun Gi=>(if Gi = true then (if (x10 == ((x5.length : Int) == 0)) = true then ((aI.f k Dw BK Dx BL).bind fun D6=>(if D6 = true then (some ((x5.length : Int) == 0)) else (some true))) else (some false)) else (some false)))
end
def ak.f (k : Nat) (Ay : Int) (Au : List (S102)) (AJ : Int) (AB : List (S102)) : Option (Bool):=(aR.f k Ay Au).bind fun Gj=>(if Gj = true then ((aR.f k AJ AB).bind fun D7=>(if D7 = true then ((aX.f k Ay Au).bind fun CX=>(if CX = true then ((aX.f k AJ AB).bind fun Cq=>(ak.j0 k (!Cq) Ay Au AJ AB)) else (ak.j0 k true Ay Au AJ AB))) else (ak.j0 k true Ay Au AJ AB))) else (ak.j0 k true Ay Au AJ AB))
theorem ak.dV : ∀ k,(∀ y0 y1 y2 y3 y4,LeO (ak.j0 k y0 y1 y2 y3 y4) (ak.j0 (k + 1) y0 y1 y2 y3 y4)) ∧ (∀ y0 y1 y2 y3 y4 y5 y6,LeO (ak.j1 k y0 y1 y2 y3 y4 y5 y6) (ak.j1 (k + 1) y0 y1 y2 y3 y4 y5 y6)) ∧ (∀ y0 y1 y2 y3 y4 y5 y6 y7,LeO (ak.l0 k y0 y1 y2 y3 y4 y5 y6 y7) (ak.l0 (k + 1) y0 y1 y2 y3 y4 y5 y6 y7)) ∧ (∀ y0 y1 y2 y3 y4 y5 y6,LeO (ak.l1 k y0 y1 y2 y3 y4 y5 y6) (ak.l1 (k + 1) y0 y1 y2 y3 y4 y5 y6))
 | 0=>⟨fun _ _ _ _ _ r h=>by simp [ak.j0] at h,fun _ _ _ _ _ _ _ r h=>by simp [ak.j1] at h,fun _ _ _ _ _ _ _ _ r h=>by simp [ak.l0] at h,fun _ _ _ _ _ _ _ r h=>by simp [ak.l1] at h⟩
 | k + 1=>by
  obtain ⟨Gn,ih1,ih2,ih3⟩:=ak.dV k
  refine ⟨?_,?_,?_,?_⟩
  ·intro y0 y1 y2 y3 y4
   unfold ak.j0
   repeat' first
   | (with_reducible exact Gn _ _ _ _ _)
   | (with_reducible exact ih1 _ _ _ _ _ _ _)
   | (with_reducible exact ih2 _ _ _ _ _ _ _ _)
   | (with_reducible exact ih3 _ _ _ _ _ _ _)
   | (with_reducible exact aR.mono _ _ _)
   | (with_reducible exact bJ.mono _)
   | (with_reducible exact aX.mono _ _ _)
   | (with_reducible exact bB.mono _ _ _ _ _ _ _ _ _ _ _ _ _)
   | (with_reducible exact aI.mono _ _ _ _ _)
   | (with_reducible exact aA.mono _ _ _ _ _)
   | (with_reducible exact LeO.refl _)
   | (with_reducible exact LeO.none _)
   | (with_reducible refine LeO.ite ?_ ?_)
   | (with_reducible refine LeO.bind ?_ (fun _=>?_))
   | exact Gn _ _ _ _ _
   | exact ih1 _ _ _ _ _ _ _
   | exact ih2 _ _ _ _ _ _ _ _
   | exact ih3 _ _ _ _ _ _ _
   | exact aR.mono _ _ _
   | exact bJ.mono _
   | exact aX.mono _ _ _
   | exact bB.mono _ _ _ _ _ _ _ _ _ _ _ _ _
   | exact aI.mono _ _ _ _ _
   | exact aA.mono _ _ _ _ _
   | exact LeO.none _
   | refine LeO.ite ?_ ?_
   | refine LeO.bind ?_ (fun _=>?_)
  ·intro y0 y1 y2 y3 y4 y5 y6
   unfold ak.j1
   repeat' first
   | (with_reducible exact Gn _ _ _ _ _)
   | (with_reducible exact ih1 _ _ _ _ _ _ _)
   | (with_reducible exact ih2 _ _ _ _ _ _ _ _)
   | (with_reducible exact ih3 _ _ _ _ _ _ _)
   | (with_reducible exact aR.mono _ _ _)
   | (with_reducible exact bJ.mono _)
   | (with_reducible exact aX.mono _ _ _)
   | (with_reducible exact bB.mono _ _ _ _ _ _ _ _ _ _ _ _ _)
   | (with_reducible exact aI.mono _ _ _ _ _)
   | (with_reducible exact aA.mono _ _ _ _ _)
   | (with_reducible exact LeO.refl _)
   | (with_reducible exact LeO.none _)
   | (with_reducible refine LeO.ite ?_ ?_)
   | (with_reducible refine LeO.bind ?_ (fun _=>?_))
   | exact Gn _ _ _ _ _
   | exact ih1 _ _ _ _ _ _ _
   | exact ih2 _ _ _ _ _ _ _ _
   | exact ih3 _ _ _ _ _ _ _
   | exact aR.mono _ _ _
   | exact bJ.mono _
   | exact aX.mono _ _ _
   | exact bB.mono _ _ _ _ _ _ _ _ _ _ _ _ _
   | exact aI.mono _ _ _ _ _
   | exact aA.mono _ _ _ _ _
   | exact LeO.none _
   | refine LeO.ite ?_ ?_
   | refine LeO.bind ?_ (fun _=>?_)
  ·intro y0 y1 y2 y3 y4 y5 y6 y7
   unfold ak.l0
   repeat' first
   | (with_reducible exact Gn _ _ _ _ _)
   | (with_reducible exact ih1 _ _ _ _ _ _ _)
   | (with_reducible exact ih2 _ _ _ _ _ _ _ _)
   | (with_reducible exact ih3 _ _ _ _ _ _ _)
   | (with_reducible exact aR.mono _ _ _)
   | (with_reducible exact bJ.mono _)
   | (with_reducible exact aX.mono _ _ _)
   | (with_reducible exact bB.mono _ _ _ _ _ _ _ _ _ _ _ _ _)
   | (with_reducible exact aI.mono _ _ _ _ _)
   | (with_reducible exact aA.mono _ _ _ _ _)
   | (with_reducible exact LeO.refl _)
   | (with_reducible exact LeO.none _)
   | (with_reducible refine LeO.ite ?_ ?_)
   | (with_reducible refine LeO.bind ?_ (fun _=>?_))
   | exact Gn _ _ _ _ _
   | exact ih1 _ _ _ _ _ _ _
   | exact ih2 _ _ _ _ _ _ _ _
   | exact ih3 _ _ _ _ _ _ _
   | exact aR.mono _ _ _
   | exact bJ.mono _
   | exact aX.mono _ _ _
   | exact bB.mono _ _ _ _ _ _ _ _ _ _ _ _ _
   | exact aI.mono _ _ _ _ _
   | exact aA.mono _ _ _ _ _
   | exact LeO.none _
   | refine LeO.ite ?_ ?_
   | refine LeO.bind ?_ (fun _=>?_)
  ·intro y0 y1 y2 y3 y4 y5 y6
   unfold ak.l1
   repeat' first
   | (with_reducible exact Gn _ _ _ _ _)
   | (with_reducible exact ih1 _ _ _ _ _ _ _)
   | (with_reducible exact ih2 _ _ _ _ _ _ _ _)
   | (with_reducible exact ih3 _ _ _ _ _ _ _)
   | (with_reducible exact aR.mono _ _ _)
   | (with_reducible exact bJ.mono _)
   | (with_reducible exact aX.mono _ _ _)
   | (with_reducible exact bB.mono _ _ _ _ _ _ _ _ _ _ _ _ _)
   | (with_reducible exact aI.mono _ _ _ _ _)
   | (with_reducible exact aA.mono _ _ _ _ _)
   | (with_reducible exact LeO.refl _)
   | (with_reducible exact LeO.none _)
   | (with_reducible refine LeO.ite ?_ ?_)
   | (with_reducible refine LeO.bind ?_ (fun _=>?_))
   | exact Gn _ _ _ _ _
   | exact ih1 _ _ _ _ _ _ _
   | exact ih2 _ _ _ _ _ _ _ _
   | exact ih3 _ _ _ _ _ _ _
   | exact aR.mono _ _ _
   | exact bJ.mono _
   | exact aX.mono _ _ _
   | exact bB.mono _ _ _ _ _ _ _ _ _ _ _ _ _
   | exact aI.mono _ _ _ _ _
   | exact aA.mono _ _ _ _ _
   | exact LeO.none _
   | refine LeO.ite ?_ ?_
   | refine LeO.bind ?_ (fun _=>?_)
theorem ak.mono : ∀ a0 a1 a2 a3 k,LeO (ak.f k a0 a1 a2 a3) (ak.f (k + 1) a0 a1 a2 a3):=by
 intro a0 a1 a2 a3 k
 obtain ⟨Gn,ih1,ih2,ih3⟩:=ak.dV k
 unfold ak.f
 repeat' first
   | (with_reducible exact Gn _ _ _ _ _)
   | (with_reducible exact ih1 _ _ _ _ _ _ _)
   | (with_reducible exact ih2 _ _ _ _ _ _ _ _)
   | (with_reducible exact ih3 _ _ _ _ _ _ _)
   | (with_reducible exact aR.mono _ _ _)
   | (with_reducible exact bJ.mono _)
   | (with_reducible exact aX.mono _ _ _)
   | (with_reducible exact bB.mono _ _ _ _ _ _ _ _ _ _ _ _ _)
   | (with_reducible exact aI.mono _ _ _ _ _)
   | (with_reducible exact aA.mono _ _ _ _ _)
   | (with_reducible exact LeO.refl _)
   | (with_reducible exact LeO.none _)
   | (with_reducible refine LeO.ite ?_ ?_)
   | (with_reducible refine LeO.bind ?_ (fun _=>?_))
   | exact Gn _ _ _ _ _
   | exact ih1 _ _ _ _ _ _ _
   | exact ih2 _ _ _ _ _ _ _ _
   | exact ih3 _ _ _ _ _ _ _
   | exact aR.mono _ _ _
   | exact bJ.mono _
   | exact aX.mono _ _ _
   | exact bB.mono _ _ _ _ _ _ _ _ _ _ _ _ _
   | exact aI.mono _ _ _ _ _
   | exact aA.mono _ _ _ _ _
   | exact LeO.none _
   | refine LeO.ite ?_ ?_
   | refine LeO.bind ?_ (fun _=>?_)
def ak.T3 : Bool × List (List Nat × List Nat):=(true,[([],[]),([],[]),([0,1],[0,1]),([],[]),([],[]),([3,4,2],[3,4]),([2,5,0,1,2],[2]),([5,6,0,1,2,3,4,5,6],[5])])
def ak.B3 : List Nat:=[0,0,3,0,0,31,63,127]
theorem ak.Aj : gM .any (opsOf Tryd.f6 3) = ak.T3:=by kernel_rfl
theorem ak.zR : eY ak.T3.2 ak.B3 = true:=by kernel_rfl
def ak.T9 : Bool × List (List Nat × List Nat):=(true,[([],[]),([],[]),([0,1],[0,1]),([2],[2]),([3],[3]),([],[]),([],[]),([5,6],[5,6]),([7],[7]),([8],[8]),([4,9],[4,9]),([10],[10]),([11],[11]),([11],[11]),([12,13,11],[11,12,13]),([14,11],[11,14]),([15,11],[11,15]),([11],[11]),([11],[11]),([17,18,11],[11,17,18]),([19,11],[11,19]),([20,11],[11,20]),([16,21,11],[11,16,21]),([22,11],[11,22]),([11,23],[11,23])])
def ak.B9 : List Nat:=[0,0,3,7,15,0,0,96,224,480,1023,2047,4095,4095,16383,32767,65535,4095,4095,397311,921599,1970175,4194303,8388607,16777215]
theorem ak.rM : gM .any (opsOf Tryd.f6 9) = ak.T9:=by kernel_rfl
theorem ak.oz : eY ak.T9.2 ak.B9 = true:=by kernel_rfl
def ak.T12 : Bool × List (List Nat × List Nat):=(true,[([],[]),([0],[0]),([],[]),([2,1],[2]),([],[]),([],[]),([4,1,3,0,1,4,5],[1,4]),([5,3,6,0,1,2,3,4,5,6],[3,5])])
def ak.B12 : List Nat:=[0,1,0,7,0,0,63,127]
theorem ak.zS : gM .any (opsOf Tryd.f6 12) = ak.T12:=by kernel_rfl
theorem ak.za : eY ak.T12.2 ak.B12 = true:=by kernel_rfl
def ak.T17 : Bool × List (List Nat × List Nat):=(true,[([],[]),([0],[0]),([],[]),([1,2],[1,2]),([3],[3]),([4],[4]),([],[]),([6],[6]),([],[]),([7,8],[7,8]),([9],[9]),([10],[10]),([5,11],[5,11]),([12],[12]),([13],[13]),([14,13],[13,14]),([13],[13]),([15,16,13],[13,15,16]),([17,13],[13,17]),([18,13],[13,18]),([13],[13]),([20,13],[13,20]),([13],[13]),([21,22,13],[13,21,22]),([23,13],[13,23]),([24,13],[13,24]),([19,25,13,13],[13,19,25]),([13,26],[13,26]),([27,26,0,1,2,3,4,5,6,7,8,9,10,11,12,13,14,15,16,17,18,19,20,21,22,23,24,25,26,27],[27])])
def ak.B17 : List Nat:=[0,1,0,7,15,31,0,64,0,448,960,1984,4095,8191,16383,32767,16383,131071,262143,524287,16383,1064959,16383,7356415,15745023,32522239,67108863,134217727,268435455]
theorem ak.xQ : gM .any (opsOf Tryd.f6 17) = ak.T17:=by kernel_rfl
theorem ak.wh : eY ak.T17.2 ak.B17 = true:=by kernel_rfl
set_option maxHeartbeats 8000000 in
set_option maxRecDepth 100000 in
theorem ak.calls (k : Nat) (Ay : Int) (Bf : Option Addr) (Bg : Nat) (Au : List (S102)) (AJ : Int) (BD : Option Addr) (BF : Nat) (AB : List (S102)) (r : Bool) (w : World) (Hw : Kd.C fP w Bf Au.length Au) (Hy : Au.length ≤ Bg) (Hz : Kd.C fP w BD AB.length AB) (H6 : AB.length ≤ BF) (h : ak.f k Ay Au AJ AB = some r) (hG : GW.GW w) (hT : r = true) :
  Calls Tryd.prog 6 #[.agg #[.int .u64 Ay,.slice Bf Au.length Bg],.agg #[.int .u64 AJ,.slice BD AB.length BF]] w fun e w'=>e = .returned (.bool r) ∧ Below w.heap.size w w':=by
 have HTr:=Aside0.mk hT
 clear hT
 have Ph:=Tryd.underlying59
 have Pj:=Tryd.underlying68
 have Pk:=Tryd.underlying30
 have Cm:=Aside0.mk Hw
 have Cn:=Aside0.mk Hy
 clear Hw Hy
 have DL:=Aside0.mk Hz
 have DN:=Aside0.mk H6
 clear Hz H6
 have HB:=Aside0.mk (Below.refl w.heap.size w)
 have H : ((aR.f k Ay Au).bind fun Gj=>(if Gj = true then ((aR.f k AJ AB).bind fun D7=>(if D7 = true then ((aX.f k Ay Au).bind fun CX=>(if CX = true then ((aX.f k AJ AB).bind fun Cq=>(ak.j0 k (!Cq) Ay Au AJ AB)) else (ak.j0 k true Ay Au AJ AB))) else (ak.j0 k true Ay Au AJ AB))) else (ak.j0 k true Ay Au AJ AB))) = some r:=h
 clear h
 have Mh:=Aside0.mk H
 clear H
 go_enter Tryd.func6,Tryd.ntmps6
 go_upto_region 1 with (first|((with_reducible refine dA (N:=2) rfl ?_);(try (refine gH (by rfl) ?_;dsimp only));refine dG ?hg (N:=2) ?hd (cs:=#[.int .u64 Ay,.slice Bf Au.length Bg]) (t:=59) ?hr ?_;(case hd=>rfl);(case hg=>rfl);(case hr=>first|(go_simp;done)|(go_simp;rfl));intro AA hg w4 hbox hb;have Bv:=Aside0.mk (aJ hb_ hb);have Bw:=Aside0.mk (hbox);have Bz:=Aside0.mk ((by rw [hg];exact (aY hb_) : w.heap.size ≤ AA));have BP:=Aside0.mk ((by rw [hg];exact (aY hb_) : w.heap.size ≤ AA));clear HB;have HB:=Bv;have Am:=Bw;have H7:=Bz;have NR:=BP;clear Bv Bw Bz BP;clear hb hbox hg)|((with_reducible refine dA (N:=3) rfl ?_);(try (refine gH (by rfl) ?_;dsimp only));refine dG ?hg (N:=3) ?hd (cs:=#[.int .u64 AJ,.slice BD AB.length BF]) (t:=59) ?hr ?_;(case hd=>rfl);(case hg=>rfl);(case hr=>first|(go_simp;done)|(go_simp;rfl));intro AQ hg w5 hbox hb;have Bv:=Aside0.mk (aM (g:=AA) (o:=.cells #[.int .u64 Ay,.slice Bf Au.length Bg] 59 (0,0)) (bk_ Am.out) hb);have Bw:=Aside0.mk (aJ hb_ hb);have Bz:=Aside0.mk (hbox);have BP:=Aside0.mk ((by rw [hg];exact (aY hb_) : w.heap.size ≤ AQ));have BS:=Aside0.mk ((by rw [hg];exact (aY hb_) : w.heap.size ≤ AQ));have Ch:=Aside0.mk ((by rw [hg];exact Nat.ne_of_lt (dn (g:=AA) (o:=.cells #[.int .u64 Ay,.slice Bf Au.length Bg] 59 (0,0)) (bk_ Am.out)) : AA ≠ AQ));have CG:=Aside0.mk ((by rw [hg];exact Nat.ne_of_gt (dn (g:=AA) (o:=.cells #[.int .u64 Ay,.slice Bf Au.length Bg] 59 (0,0)) (bk_ Am.out)) : AQ ≠ AA));clear Am;clear HB;have Am:=Bv;have HB:=Bw;have Ao:=Bz;have H8:=BP;have NS:=BS;have Cc:=Ch;have Ce:=CG;clear Bv Bw Bz BP BS Ch CG;clear hb hbox hg))
 (try simp only [Act.put,List.setIfInBounds_toArray,List.set_cons_zero,List.set_cons_succ])
 go_cut [29] (fun v29 wc=>∃ (kq : Nat) (Fu : Bool),v29 = .bool Fu ∧ Aside0 (ak.j0 kq Fu Ay Au AJ AB = some r) ∧ Aside0 (kq ≤ k) ∧ Aside0 (wc.heap[AA]? = some (.cells #[.int .u64 Ay,(.slice Bf Au.length Bg)] 59 (0,0))) ∧ Aside0 (wc.heap[AQ]? = some (.cells #[.int .u64 AJ,(.slice BD AB.length BF)] 59 (0,0))) ∧ Aside0 (Below w.heap.size w wc))
 case first =>
  have H:=Mh.out
  clear Mh
  replace H:=Option.bind_eq_some_iff.mp H
  obtain ⟨Gj,NT,H⟩:=H
  replace H : (if Gj = true then ((aR.f k AJ AB).bind fun D7=>(if D7 = true then ((aX.f k Ay Au).bind fun CX=>(if CX = true then ((aX.f k AJ AB).bind fun Cq=>(ak.j0 k (!Cq) Ay Au AJ AB)) else (ak.j0 k true Ay Au AJ AB))) else (ak.j0 k true Ay Au AJ AB))) else (ak.j0 k true Ay Au AJ AB)) = some r:=H
  have A6:=Aside0.mk NT
  clear NT
  by_cases c7 : Gj = true
  ·subst c7
   have H1 : ((aR.f k AJ AB).bind fun D7=>(if D7 = true then ((aX.f k Ay Au).bind fun CX=>(if CX = true then ((aX.f k AJ AB).bind fun Cq=>(ak.j0 k (!Cq) Ay Au AJ AB)) else (ak.j0 k true Ay Au AJ AB))) else (ak.j0 k true Ay Au AJ AB))) = some r:=by rw [if_pos rfl] at H;exact H
   clear H
   have H:=H1
   clear H1
   replace H:=Option.bind_eq_some_iff.mp H
   obtain ⟨D7,NU,H⟩:=H
   replace H : (if D7 = true then ((aX.f k Ay Au).bind fun CX=>(if CX = true then ((aX.f k AJ AB).bind fun Cq=>(ak.j0 k (!Cq) Ay Au AJ AB)) else (ak.j0 k true Ay Au AJ AB))) else (ak.j0 k true Ay Au AJ AB)) = some r:=H
   have A8:=Aside0.mk NU
   clear NU
   by_cases c9 : D7 = true
   ·subst c9
    have H1 : ((aX.f k Ay Au).bind fun CX=>(if CX = true then ((aX.f k AJ AB).bind fun Cq=>(ak.j0 k (!Cq) Ay Au AJ AB)) else (ak.j0 k true Ay Au AJ AB))) = some r:=by rw [if_pos rfl] at H;exact H
    clear H
    have H:=H1
    clear H1
    replace H:=Option.bind_eq_some_iff.mp H
    obtain ⟨CX,IL,H⟩:=H
    replace H : (if CX = true then ((aX.f k AJ AB).bind fun Cq=>(ak.j0 k (!Cq) Ay Au AJ AB)) else (ak.j0 k true Ay Au AJ AB)) = some r:=H
    have NV:=Aside0.mk IL
    clear IL
    by_cases c11 : CX = true
    ·subst c11
     have H1 : ((aX.f k AJ AB).bind fun Cq=>(ak.j0 k (!Cq) Ay Au AJ AB)) = some r:=by rw [if_pos rfl] at H;exact H
     clear H
     have H:=H1
     clear H1
     replace H:=Option.bind_eq_some_iff.mp H
     obtain ⟨Cq,IQ,H⟩:=H
     replace H : (ak.j0 k (!Cq) Ay Au AJ AB) = some r:=H
     have Pm:=Aside0.mk IQ
     clear IQ
     have H':=Aside0.mk H
     clear H
     have NW:=Cc.out
     have NY:=Ce.out
     have Eb : w5.cell? ⟨AA,0,none⟩ = some (.int .u64 Ay):=(ah Am.out 0).trans rfl
     have Ec : w5.cell? ⟨AA,1,none⟩ = some (.slice Bf Au.length Bg):=(ah Am.out 1).trans rfl
     have Ed:=au Am.out 0
     have Ee:=au Am.out 1
     go_wp2_with (first|((with_reducible refine bq (f:=24) rfl ?_);refine cO (some 13) rfl rfl Tryd.func24 (by kernel_rfl) rfl #[.agg #[.int .u64 Ay,.slice Bf Au.length Bg]] rfl (by (try simp only [List.map_toArray,List.map_cons,List.map_nil]);first|done|rfl|(simp only [List.length_drop,List.length_take];rfl)|(simp (disch:=first|omega|(simp at *;omega)) only [cZ,bS,dQ];rfl)) ?_;(with_reducible refine (aR.calls k Ay _ _ Au true _ ?Bj ?Bl A6.out).mono ?_);(case Bj=>repeat (first|exact (Kd.bN Cm.out HB.out)|(with_reducible refine Kd.bC ?_ _)|(with_reducible refine Kd.bO ?_ _)|(with_reducible refine Kd.bW ?_)));(case Bl=>exact Cn.out);rintro e NZ ⟨rfl,hb⟩;refine ⟨_,rfl,?_⟩;have Bv:=Aside0.mk (aM (g:=AA) (o:=.cells #[.int .u64 Ay,.slice Bf Au.length Bg] 59 (0,0)) (bk_ Am.out) hb);have Bw:=Aside0.mk (aM (g:=AQ) (o:=.cells #[.int .u64 AJ,.slice BD AB.length BF] 59 (0,0)) (bk_ Ao.out) hb);have Bz:=Aside0.mk (aJ hb_ hb);clear Am;clear Ao;clear HB;have Am:=Bv;have Ao:=Bw;have HB:=Bz;clear Bv Bw Bz;(try clear hb);(try clear hb2);(try clear hk);(try clear hi);have Ef : NZ.cell? ⟨AQ,0,none⟩ = some (.int .u64 AJ):=(ah Ao.out 0).trans rfl;have Eh : NZ.cell? ⟨AQ,1,none⟩ = some (.slice BD AB.length BF):=(ah Ao.out 1).trans rfl;have Ei:=au Ao.out 0;have Ej:=au Ao.out 1)|(go_at_call 24;(with_reducible refine (aR.calls k AJ _ _ AB true _ ?Bj ?Bl A8.out).mono ?_);(case Bj=>repeat (first|exact (Kd.bN DL.out HB.out)|(with_reducible refine Kd.bC ?_ _)|(with_reducible refine Kd.bO ?_ _)|(with_reducible refine Kd.bW ?_)));(case Bl=>exact DN.out);rintro e N7 ⟨rfl,hb⟩;have Bv:=Aside0.mk (aM (g:=AA) (o:=.cells #[.int .u64 Ay,.slice Bf Au.length Bg] 59 (0,0)) (bk_ Am.out) hb);have Bw:=Aside0.mk (aM (g:=AQ) (o:=.cells #[.int .u64 AJ,.slice BD AB.length BF] 59 (0,0)) (bk_ Ao.out) hb);have Bz:=Aside0.mk (aJ hb_ hb);clear Am;clear Ao;clear HB;have Am:=Bv;have Ao:=Bw;have HB:=Bz;clear Bv Bw Bz;(try clear hb);(try clear hb2);(try clear hk);(try clear hi);have El : N7.cell? ⟨AA,0,none⟩ = some (.int .u64 Ay):=(ah Am.out 0).trans rfl;have Em : N7.cell? ⟨AA,1,none⟩ = some (.slice Bf Au.length Bg):=(ah Am.out 1).trans rfl;have En:=au Am.out 0;have Eo:=au Am.out 1)|(go_at_call 25;(with_reducible refine (aX.calls k Ay _ _ Au true _ ?Bj ?Bl NV.out).mono ?_);(case Bj=>repeat (first|exact (Kd.bN Cm.out HB.out)|(with_reducible refine Kd.bC ?_ _)|(with_reducible refine Kd.bO ?_ _)|(with_reducible refine Kd.bW ?_)));(case Bl=>exact Cn.out);rintro e N8 ⟨rfl,hb⟩;have Bv:=Aside0.mk (aM (g:=AA) (o:=.cells #[.int .u64 Ay,.slice Bf Au.length Bg] 59 (0,0)) (bk_ Am.out) hb);have Bw:=Aside0.mk (aM (g:=AQ) (o:=.cells #[.int .u64 AJ,.slice BD AB.length BF] 59 (0,0)) (bk_ Ao.out) hb);have Bz:=Aside0.mk (aJ hb_ hb);clear Am;clear Ao;clear HB;have Am:=Bv;have Ao:=Bw;have HB:=Bz;clear Bv Bw Bz;(try clear hb);(try clear hb2);(try clear hk);(try clear hi);have Ep : N8.cell? ⟨AQ,0,none⟩ = some (.int .u64 AJ):=(ah Ao.out 0).trans rfl;have Er : N8.cell? ⟨AQ,1,none⟩ = some (.slice BD AB.length BF):=(ah Ao.out 1).trans rfl;have Es:=au Ao.out 0;have Et:=au Ao.out 1)|(go_at_call 25;(with_reducible refine (aX.calls k AJ _ _ AB Cq _ ?Bj ?Bl Pm.out).mono ?_);(case Bj=>repeat (first|exact (Kd.bN DL.out HB.out)|(with_reducible refine Kd.bC ?_ _)|(with_reducible refine Kd.bO ?_ _)|(with_reducible refine Kd.bW ?_)));(case Bl=>exact DN.out);rintro e Qd ⟨rfl,hb⟩;have Bv:=Aside0.mk (aM (g:=AA) (o:=.cells #[.int .u64 Ay,.slice Bf Au.length Bg] 59 (0,0)) (bk_ Am.out) hb);have Bw:=Aside0.mk (aM (g:=AQ) (o:=.cells #[.int .u64 AJ,.slice BD AB.length BF] 59 (0,0)) (bk_ Ao.out) hb);have Bz:=Aside0.mk (aJ hb_ hb);clear Am;clear Ao;clear HB;have Am:=Bv;have Ao:=Bw;have HB:=Bz;clear Bv Bw Bz;(try clear hb);(try clear hb2);(try clear hk);(try clear hi)))
     go_meet
     case rel=>exact ⟨_,(!Cq),(by first|rfl|(simp;done)|(simp [*];done)),H',⟨by first|omega|exact Nat.le_refl _⟩,⟨by (with_reducible repeat (first|apply aC|apply aG|apply aH));exact Am.out⟩,⟨by (with_reducible repeat (first|apply aC|apply aG|apply aH));exact Ao.out⟩,⟨hb_⟩⟩
    ·replace c11:=Bool.eq_false_iff.mpr c11
     subst c11
     have H1 : (ak.j0 k true Ay Au AJ AB) = some r:=by rw [if_neg (show ¬ (false = true) by decide)] at H;exact H
     clear H
     have H:=H1
     clear H1
     have H':=Aside0.mk H
     clear H
     have N9:=Cc.out
     have Oa:=Ce.out
     have Eu : w5.cell? ⟨AA,0,none⟩ = some (.int .u64 Ay):=(ah Am.out 0).trans rfl
     have Ew : w5.cell? ⟨AA,1,none⟩ = some (.slice Bf Au.length Bg):=(ah Am.out 1).trans rfl
     have Ey:=au Am.out 0
     have Ez:=au Am.out 1
     go_wp2_with (first|((with_reducible refine bq (f:=24) rfl ?_);refine cO (some 13) rfl rfl Tryd.func24 (by kernel_rfl) rfl #[.agg #[.int .u64 Ay,.slice Bf Au.length Bg]] rfl (by (try simp only [List.map_toArray,List.map_cons,List.map_nil]);first|done|rfl|(simp only [List.length_drop,List.length_take];rfl)|(simp (disch:=first|omega|(simp at *;omega)) only [cZ,bS,dQ];rfl)) ?_;(with_reducible refine (aR.calls k Ay _ _ Au true _ ?Bj ?Bl A6.out).mono ?_);(case Bj=>repeat (first|exact (Kd.bN Cm.out HB.out)|(with_reducible refine Kd.bC ?_ _)|(with_reducible refine Kd.bO ?_ _)|(with_reducible refine Kd.bW ?_)));(case Bl=>exact Cn.out);rintro e Ob ⟨rfl,hb⟩;refine ⟨_,rfl,?_⟩;have Bv:=Aside0.mk (aM (g:=AA) (o:=.cells #[.int .u64 Ay,.slice Bf Au.length Bg] 59 (0,0)) (bk_ Am.out) hb);have Bw:=Aside0.mk (aM (g:=AQ) (o:=.cells #[.int .u64 AJ,.slice BD AB.length BF] 59 (0,0)) (bk_ Ao.out) hb);have Bz:=Aside0.mk (aJ hb_ hb);clear Am;clear Ao;clear HB;have Am:=Bv;have Ao:=Bw;have HB:=Bz;clear Bv Bw Bz;(try clear hb);(try clear hb2);(try clear hk);(try clear hi);have EA : Ob.cell? ⟨AQ,0,none⟩ = some (.int .u64 AJ):=(ah Ao.out 0).trans rfl;have EB : Ob.cell? ⟨AQ,1,none⟩ = some (.slice BD AB.length BF):=(ah Ao.out 1).trans rfl;have EC:=au Ao.out 0;have ED:=au Ao.out 1)|(go_at_call 24;(with_reducible refine (aR.calls k AJ _ _ AB true _ ?Bj ?Bl A8.out).mono ?_);(case Bj=>repeat (first|exact (Kd.bN DL.out HB.out)|(with_reducible refine Kd.bC ?_ _)|(with_reducible refine Kd.bO ?_ _)|(with_reducible refine Kd.bW ?_)));(case Bl=>exact DN.out);rintro e Oc ⟨rfl,hb⟩;have Bv:=Aside0.mk (aM (g:=AA) (o:=.cells #[.int .u64 Ay,.slice Bf Au.length Bg] 59 (0,0)) (bk_ Am.out) hb);have Bw:=Aside0.mk (aM (g:=AQ) (o:=.cells #[.int .u64 AJ,.slice BD AB.length BF] 59 (0,0)) (bk_ Ao.out) hb);have Bz:=Aside0.mk (aJ hb_ hb);clear Am;clear Ao;clear HB;have Am:=Bv;have Ao:=Bw;have HB:=Bz;clear Bv Bw Bz;(try clear hb);(try clear hb2);(try clear hk);(try clear hi);have EF : Oc.cell? ⟨AA,0,none⟩ = some (.int .u64 Ay):=(ah Am.out 0).trans rfl;have EG : Oc.cell? ⟨AA,1,none⟩ = some (.slice Bf Au.length Bg):=(ah Am.out 1).trans rfl;have EH:=au Am.out 0;have EI:=au Am.out 1)|(go_at_call 25;(with_reducible refine (aX.calls k Ay _ _ Au false _ ?Bj ?Bl NV.out).mono ?_);(case Bj=>repeat (first|exact (Kd.bN Cm.out HB.out)|(with_reducible refine Kd.bC ?_ _)|(with_reducible refine Kd.bO ?_ _)|(with_reducible refine Kd.bW ?_)));(case Bl=>exact Cn.out);rintro e Qe ⟨rfl,hb⟩;have Bv:=Aside0.mk (aM (g:=AA) (o:=.cells #[.int .u64 Ay,.slice Bf Au.length Bg] 59 (0,0)) (bk_ Am.out) hb);have Bw:=Aside0.mk (aM (g:=AQ) (o:=.cells #[.int .u64 AJ,.slice BD AB.length BF] 59 (0,0)) (bk_ Ao.out) hb);have Bz:=Aside0.mk (aJ hb_ hb);clear Am;clear Ao;clear HB;have Am:=Bv;have Ao:=Bw;have HB:=Bz;clear Bv Bw Bz;(try clear hb);(try clear hb2);(try clear hk);(try clear hi)))
     go_meet
     case rel=>exact ⟨_,(true),(by first|rfl|(simp;done)|(simp [*];done)),H',⟨by first|omega|exact Nat.le_refl _⟩,⟨by (with_reducible repeat (first|apply aC|apply aG|apply aH));exact Am.out⟩,⟨by (with_reducible repeat (first|apply aC|apply aG|apply aH));exact Ao.out⟩,⟨hb_⟩⟩
   ·replace c9:=Bool.eq_false_iff.mpr c9
    subst c9
    have H1 : (ak.j0 k true Ay Au AJ AB) = some r:=by rw [if_neg (show ¬ (false = true) by decide)] at H;exact H
    clear H
    have H:=H1
    clear H1
    have H':=Aside0.mk H
    clear H
    have Od:=Cc.out
    have Oe:=Ce.out
    have EJ : w5.cell? ⟨AA,0,none⟩ = some (.int .u64 Ay):=(ah Am.out 0).trans rfl
    have EK : w5.cell? ⟨AA,1,none⟩ = some (.slice Bf Au.length Bg):=(ah Am.out 1).trans rfl
    have EL:=au Am.out 0
    have EM:=au Am.out 1
    go_wp2_with (first|((with_reducible refine bq (f:=24) rfl ?_);refine cO (some 13) rfl rfl Tryd.func24 (by kernel_rfl) rfl #[.agg #[.int .u64 Ay,.slice Bf Au.length Bg]] rfl (by (try simp only [List.map_toArray,List.map_cons,List.map_nil]);first|done|rfl|(simp only [List.length_drop,List.length_take];rfl)|(simp (disch:=first|omega|(simp at *;omega)) only [cZ,bS,dQ];rfl)) ?_;(with_reducible refine (aR.calls k Ay _ _ Au true _ ?Bj ?Bl A6.out).mono ?_);(case Bj=>repeat (first|exact (Kd.bN Cm.out HB.out)|(with_reducible refine Kd.bC ?_ _)|(with_reducible refine Kd.bO ?_ _)|(with_reducible refine Kd.bW ?_)));(case Bl=>exact Cn.out);rintro e Og ⟨rfl,hb⟩;refine ⟨_,rfl,?_⟩;have Bv:=Aside0.mk (aM (g:=AA) (o:=.cells #[.int .u64 Ay,.slice Bf Au.length Bg] 59 (0,0)) (bk_ Am.out) hb);have Bw:=Aside0.mk (aM (g:=AQ) (o:=.cells #[.int .u64 AJ,.slice BD AB.length BF] 59 (0,0)) (bk_ Ao.out) hb);have Bz:=Aside0.mk (aJ hb_ hb);clear Am;clear Ao;clear HB;have Am:=Bv;have Ao:=Bw;have HB:=Bz;clear Bv Bw Bz;(try clear hb);(try clear hb2);(try clear hk);(try clear hi);have EN : Og.cell? ⟨AQ,0,none⟩ = some (.int .u64 AJ):=(ah Ao.out 0).trans rfl;have EO : Og.cell? ⟨AQ,1,none⟩ = some (.slice BD AB.length BF):=(ah Ao.out 1).trans rfl;have EP:=au Ao.out 0;have ER:=au Ao.out 1)|(go_at_call 24;(with_reducible refine (aR.calls k AJ _ _ AB false _ ?Bj ?Bl A8.out).mono ?_);(case Bj=>repeat (first|exact (Kd.bN DL.out HB.out)|(with_reducible refine Kd.bC ?_ _)|(with_reducible refine Kd.bO ?_ _)|(with_reducible refine Kd.bW ?_)));(case Bl=>exact DN.out);rintro e Qf ⟨rfl,hb⟩;have Bv:=Aside0.mk (aM (g:=AA) (o:=.cells #[.int .u64 Ay,.slice Bf Au.length Bg] 59 (0,0)) (bk_ Am.out) hb);have Bw:=Aside0.mk (aM (g:=AQ) (o:=.cells #[.int .u64 AJ,.slice BD AB.length BF] 59 (0,0)) (bk_ Ao.out) hb);have Bz:=Aside0.mk (aJ hb_ hb);clear Am;clear Ao;clear HB;have Am:=Bv;have Ao:=Bw;have HB:=Bz;clear Bv Bw Bz;(try clear hb);(try clear hb2);(try clear hk);(try clear hi)))
    go_meet
    case rel=>exact ⟨_,(true),(by first|rfl|(simp;done)|(simp [*];done)),H',⟨by first|omega|exact Nat.le_refl _⟩,⟨by (with_reducible repeat (first|apply aC|apply aG|apply aH));exact Am.out⟩,⟨by (with_reducible repeat (first|apply aC|apply aG|apply aH));exact Ao.out⟩,⟨hb_⟩⟩
  ·replace c7:=Bool.eq_false_iff.mpr c7
   subst c7
   have H1 : (ak.j0 k true Ay Au AJ AB) = some r:=by rw [if_neg (show ¬ (false = true) by decide)] at H;exact H
   clear H
   have H:=H1
   clear H1
   have H':=Aside0.mk H
   clear H
   have Oh:=Cc.out
   have Oi:=Ce.out
   have ES : w5.cell? ⟨AA,0,none⟩ = some (.int .u64 Ay):=(ah Am.out 0).trans rfl
   have ET : w5.cell? ⟨AA,1,none⟩ = some (.slice Bf Au.length Bg):=(ah Am.out 1).trans rfl
   have EU:=au Am.out 0
   have EW:=au Am.out 1
   go_wp2_with (first|((with_reducible refine bq (f:=24) rfl ?_);refine cO (some 13) rfl rfl Tryd.func24 (by kernel_rfl) rfl #[.agg #[.int .u64 Ay,.slice Bf Au.length Bg]] rfl (by (try simp only [List.map_toArray,List.map_cons,List.map_nil]);first|done|rfl|(simp only [List.length_drop,List.length_take];rfl)|(simp (disch:=first|omega|(simp at *;omega)) only [cZ,bS,dQ];rfl)) ?_;(with_reducible refine (aR.calls k Ay _ _ Au false _ ?Bj ?Bl A6.out).mono ?_);(case Bj=>repeat (first|exact (Kd.bN Cm.out HB.out)|(with_reducible refine Kd.bC ?_ _)|(with_reducible refine Kd.bO ?_ _)|(with_reducible refine Kd.bW ?_)));(case Bl=>exact Cn.out);rintro e Qg ⟨rfl,hb⟩;refine ⟨_,rfl,?_⟩;have Bv:=Aside0.mk (aM (g:=AA) (o:=.cells #[.int .u64 Ay,.slice Bf Au.length Bg] 59 (0,0)) (bk_ Am.out) hb);have Bw:=Aside0.mk (aM (g:=AQ) (o:=.cells #[.int .u64 AJ,.slice BD AB.length BF] 59 (0,0)) (bk_ Ao.out) hb);have Bz:=Aside0.mk (aJ hb_ hb);clear Am;clear Ao;clear HB;have Am:=Bv;have Ao:=Bw;have HB:=Bz;clear Bv Bw Bz;(try clear hb);(try clear hb2);(try clear hk);(try clear hi)))
   go_meet
   case rel=>exact ⟨_,(true),(by first|rfl|(simp;done)|(simp [*];done)),H',⟨by first|omega|exact Nat.le_refl _⟩,⟨by (with_reducible repeat (first|apply aC|apply aG|apply aH));exact Am.out⟩,⟨by (with_reducible repeat (first|apply aC|apply aG|apply aH));exact Ao.out⟩,⟨hb_⟩⟩
 case rest =>
  clear Mh
  try clear c1
  try clear c2
  try clear p2
  try clear c3
  try clear c6
  try clear c7
  try clear c9
  try clear c11
  try clear c13
  try clear Oj
  try clear c24
  try clear Ol
  try clear c34
  try clear Eb
  try clear Ec
  try clear Ef
  try clear Eh
  try clear El
  try clear Em
  try clear Ep
  try clear Er
  try clear Eu
  try clear Ew
  try clear EA
  try clear EB
  try clear EF
  try clear EG
  try clear EJ
  try clear EK
  try clear EN
  try clear EO
  try clear ES
  try clear ET
  try clear Ed
  try clear Ee
  try clear Ei
  try clear Ej
  try clear En
  try clear Eo
  try clear Es
  try clear Et
  try clear Ey
  try clear Ez
  try clear EC
  try clear ED
  try clear EH
  try clear EI
  try clear EL
  try clear EM
  try clear EP
  try clear ER
  try clear EU
  try clear EW
  obtain ⟨kq,Fu,rfl,HA,HJ2,Am,Ao,HB⟩:=hcut
  cases kq with
  | zero=>exact absurd HA.out (by simp [ak.j0])
  | succ D8 =>
   have H:=HA.out
   clear HA
   simp only [ak.j0] at H
   by_cases c37 : Fu = true
   ·subst c37
    have H1 : ((bJ.f D8).bind fun Gg=>(some Gg)) = some r:=by rw [if_pos rfl] at H;exact H
    clear H
    have H:=H1
    clear H1
    replace H:=Option.bind_eq_some_iff.mp H
    obtain ⟨Gg,IU,H⟩:=H
    replace H : (some Gg) = some r:=H
    have Pn:=Aside0.mk IU
    clear IU
    obtain rfl:=Option.some.inj H
    go_wp2_with (first|((with_reducible refine bq (f:=26) rfl ?_);refine cO (some 30) rfl rfl Tryd.func26 (by kernel_rfl) rfl #[] rfl (by (try simp only [List.map_toArray,List.map_cons,List.map_nil]);first|done|rfl|(simp only [List.length_drop,List.length_take];rfl)|(simp (disch:=first|omega|(simp at *;omega)) only [cZ,bS,dQ];rfl)) ?_;(with_reducible refine (bJ.calls D8  Gg _ Pn.out (by first|assumption|exact GW.below hG (by first|exact HB.out|assumption|(repeat (first|(with_reducible first|exact HB.out|apply bG|apply aT|apply aZ)|exact HB.out)))|exact GW.drawn hG (by first|assumption|(repeat (first|exact Drawn0.refl _|assumption|apply Drawn0.step))))).mono ?_);rintro e Qh ⟨rfl,hb⟩;refine ⟨_,rfl,?_⟩;have Bv:=Aside0.mk (aM (g:=AA) (o:=.cells #[.int .u64 Ay,.slice Bf Au.length Bg] 59 (0,0)) (bk_ Am.out) hb);have Bw:=Aside0.mk (aM (g:=AQ) (o:=.cells #[.int .u64 AJ,.slice BD AB.length BF] 59 (0,0)) (bk_ Ao.out) hb);have Bz:=Aside0.mk (aJ hb_ hb);clear Am;clear Ao;clear HB;have Am:=Bv;have Ao:=Bw;have HB:=Bz;clear Bv Bw Bz;(try clear hb);(try clear hb2);(try clear hk);(try clear hi)))
    go_ret
    exact ⟨by first|rfl|(simp [aV,aW] <;> rfl)|(simp [*,aV,aW] <;> rfl),hb_⟩
   ·replace c37:=Bool.eq_false_iff.mpr c37
    subst c37
    have H1 : ((aA.f D8 Ay Au AJ AB).bind fun AO=>((aA.f D8 AJ AB Ay Au).bind fun Bu=>((aA.f D8 Ay Au Ay Au).bind fun CK=>(if (CK.length : Int) = 0 then (ak.j1 D8 AO Bu ((AO.length : Int) != (Bu.length : Int)) Ay Au AJ AB) else (ak.j1 D8 AO Bu true Ay Au AJ AB))))) = some r:=by rw [if_neg (show ¬ (false = true) by decide)] at H;exact H
    clear H
    have H:=H1
    clear H1
    replace H:=Option.bind_eq_some_iff.mp H
    obtain ⟨AO,IV,H⟩:=H
    replace H : ((aA.f D8 AJ AB Ay Au).bind fun Bu=>((aA.f D8 Ay Au Ay Au).bind fun CK=>(if (CK.length : Int) = 0 then (ak.j1 D8 AO Bu ((AO.length : Int) != (Bu.length : Int)) Ay Au AJ AB) else (ak.j1 D8 AO Bu true Ay Au AJ AB)))) = some r:=H
    have Po:=Aside0.mk IV
    clear IV
    replace H:=Option.bind_eq_some_iff.mp H
    obtain ⟨Bu,IW,H⟩:=H
    replace H : ((aA.f D8 Ay Au Ay Au).bind fun CK=>(if (CK.length : Int) = 0 then (ak.j1 D8 AO Bu ((AO.length : Int) != (Bu.length : Int)) Ay Au AJ AB) else (ak.j1 D8 AO Bu true Ay Au AJ AB))) = some r:=H
    have Pp:=Aside0.mk IW
    clear IW
    have Ij:=Aside0.mk H
    clear H
    try go_wp2
    have Bv:=Aside0.mk (aG Am.out)
    have Bw:=Aside0.mk (aG Ao.out)
    have Bz:=Aside0.mk (aZ HB.out)
    clear Am
    clear Ao
    clear HB
    have Am:=Bv
    have Ao:=Bw
    have HB:=Bz
    clear Bv Bw Bz
    refine fu (n:=8) (S:=fun w'=>w'.cell? ⟨AA,0,none⟩ = some (.int .u64 Ay) ∧ w'.cell? ⟨AA,1,none⟩ = some (.slice Bf Au.length Bg) ∧ w'.cell? ⟨AQ,0,none⟩ = some (.int .u64 AJ) ∧ w'.cell? ⟨AQ,1,none⟩ = some (.slice BD AB.length BF)) (ds:=[]) #[O,O,O,O,O,O,O,O] (by kernel_rfl) rfl rfl ⟨(ah Am.out 0).trans rfl,(ah Am.out 1).trans rfl,(ah Ao.out 0).trans rfl,(ah Ao.out 1).trans rfl⟩ (fun hHeld=>?_);refine dR ak.Aj ak.zR (fun HT_ HW_=>?_)
    generalize wc.drew = Qi at Am Ao HB hHeld ⊢
    refine ta_ 0 31 #[I,O,O,O,O,O,O,O] HT_.out HW_.out hHeld ?_
    refine ta_ 1 32 #[I,I,O,O,O,O,O,O] HT_.out HW_.out hHeld ?_
    refine ta_ 3 34 #[I,I,O,I,O,O,O,O] HT_.out HW_.out hHeld ?_
    refine ta_ 4 35 #[I,I,O,I,I,O,O,O] HT_.out HW_.out hHeld ?_
    refine gG (i:=2) (N:=some 33) #[I,I,I,I,I,O,O,O] rfl rfl (dw HT_.out (by kernel_rfl)) (by decide) (fun K hK=>?_)
    refine eZ Tryd.func27 (by kernel_rfl) rfl #[.agg #[.int .u64 Ay,.slice Bf Au.length Bg],.agg #[.int .u64 AJ,.slice BD AB.length BF]] (by rfl) rfl rfl (by (try simp only [List.map_toArray,List.map_cons,List.map_nil]);first|done|rfl|(simp only [List.length_drop,List.length_take];rfl)) ?_
    with_reducible refine (aA.calls D8 Ay (fun k_=>k_ < w.heap.size) _ _ Au AJ (fun k_=>k_ < w.heap.size) _ _ AB AO _ ?Bj ?Bl Po.out).mono ?_
    (case Bj=>exact Kd.gU Cn.out (Kd.iq (Kd.C_F iE Cm.out) hb_))
    (case Bl=>exact Kd.gU DN.out (Kd.iq (Kd.C_F iE DL.out) hb_))
    rintro e Qj ⟨IX,rfl,ho0,hb⟩
    refine ⟨_,rfl,?_⟩
    have Bv:=Aside0.mk (Kd.iI (Kd.gQ (ok':=fun k_=>True) ho0 (fun _ hk_=>trivial)) (aY hb_))
    have Bw:=Aside0.mk (aM (g:=AA) (o:=.cells #[.int .u64 Ay,.slice Bf Au.length Bg] 59 (0,0)) (bk_ Am.out) hb)
    have Bz:=Aside0.mk (aM (g:=AQ) (o:=.cells #[.int .u64 AJ,.slice BD AB.length BF] 59 (0,0)) (bk_ Ao.out) hb)
    have BP:=Aside0.mk (aJ hb_ hb)
    clear Am
    clear Ao
    clear HB
    have Cg:=Bv
    have Am:=Bw
    have Ao:=Bz
    have HB:=BP
    clear Bv Bw Bz BP
    (try clear hb)
    (try clear hb2)
    (try clear hk)
    (try clear hi)
    (try clear ho0)
    refine hK.out _ _ ⟨(ah Am.out 0).trans rfl,(ah Am.out 1).trans rfl,(ah Ao.out 0).trans rfl,(ah Ao.out 1).trans rfl⟩ (fun hHeld=>?_)
    clear hK K
    refine dU (a':=?_) ?_ ?_
    rotate_left
    ·show Act.put _ (some 33) _ = _
     simp only [Act.put,List.setIfInBounds_toArray,List.set_cons_zero,List.set_cons_succ,bH,bI]
     rfl
    refine gG (i:=5) (N:=some 36) #[I,I,I,I,I,I,O,O] rfl rfl (dw HT_.out (by kernel_rfl)) (by decide) (fun K hK=>?_)
    refine eZ Tryd.func27 (by kernel_rfl) rfl #[.agg #[.int .u64 AJ,.slice BD AB.length BF],.agg #[.int .u64 Ay,.slice Bf Au.length Bg]] (by rfl) rfl rfl (by (try simp only [List.map_toArray,List.map_cons,List.map_nil]);first|done|rfl|(simp only [List.length_drop,List.length_take];rfl)) ?_
    with_reducible refine (aA.calls D8 AJ (fun k_=>k_ < w.heap.size) _ _ AB Ay (fun k_=>k_ < w.heap.size) _ _ Au Bu _ ?Bj ?Bl Pp.out).mono ?_
    (case Bj=>exact Kd.gU DN.out (Kd.iq (Kd.C_F iE DL.out) hb_))
    (case Bl=>exact Kd.gU Cn.out (Kd.iq (Kd.C_F iE Cm.out) hb_))
    rintro e Le ⟨Dv,rfl,ho0,hb⟩
    refine ⟨_,rfl,?_⟩
    have Bv:=Aside0.mk (Kd.jR (kr_ Cg.out) (Kd.iX ho0) hb)
    have Bw:=Aside0.mk (Kd.iI (Kd.mE (Kd.gQ (ok':=fun k_=>True) ho0 (fun _ hk_=>trivial)) (Kd.pY (kr_ Cg.out))) (aY hb_))
    have Bz:=Aside0.mk (aM (g:=AA) (o:=.cells #[.int .u64 Ay,.slice Bf Au.length Bg] 59 (0,0)) (bk_ Am.out) hb)
    have BP:=Aside0.mk (aM (g:=AQ) (o:=.cells #[.int .u64 AJ,.slice BD AB.length BF] 59 (0,0)) (bk_ Ao.out) hb)
    have BS:=Aside0.mk (aJ hb_ hb)
    clear Cg
    clear Am
    clear Ao
    clear HB
    have Cg:=Bv
    have CO:=Bw
    have Am:=Bz
    have Ao:=BP
    have HB:=BS
    clear Bv Bw Bz BP BS
    (try clear hb)
    (try clear hb2)
    (try clear hk)
    (try clear hi)
    (try clear ho0)
    refine hK.out _ _ ⟨(ah Am.out 0).trans rfl,(ah Am.out 1).trans rfl,(ah Ao.out 0).trans rfl,(ah Ao.out 1).trans rfl⟩ (fun hHeld=>?_)
    clear hK K
    refine dU (a':=?_) ?_ ?_
    rotate_left
    ·show Act.put _ (some 36) _ = _
     simp only [Act.put,List.setIfInBounds_toArray,List.set_cons_zero,List.set_cons_succ,bH,bI]
     rfl
    refine pu_ 6 5 #[I,I,I,I,I,I,I,O] HT_.out ?_
    refine pu_ 7 6 #[I,I,I,I,I,I,I,I] HT_.out ?_
    refine gJ (eH HT_.out (by kernel_rfl)) ?_
    go_upto_region 4 with (fail)
    go_cut [48] (fun v48 wc=>∃ (kq : Nat) (EX : Bool),v48 = .bool EX ∧ Aside0 (ak.j1 kq AO Bu EX Ay Au AJ AB = some r) ∧ Aside0 (kq ≤ D8) ∧ Aside0 (Kd.R k65 65 wc w.heap.size (fun k_=>some k_ ≠ (Dv : Value).ownBlock) IX AO) ∧ Aside0 (Kd.R k65 65 wc w.heap.size (fun k_=>some k_ ≠ (IX : Value).ownBlock) Dv Bu) ∧ Aside0 (wc.heap[AA]? = some (.cells #[.int .u64 Ay,(.slice Bf Au.length Bg)] 59 (0,0))) ∧ Aside0 (wc.heap[AQ]? = some (.cells #[.int .u64 AJ,(.slice BD AB.length BF)] 59 (0,0))) ∧ Aside0 (Below w.heap.size w wc))
    case first =>
     have H:=Ij.out
     clear Ij
     replace H:=Option.bind_eq_some_iff.mp H
     obtain ⟨CK,IY,H⟩:=H
     replace H : (if (CK.length : Int) = 0 then (ak.j1 D8 AO Bu ((AO.length : Int) != (Bu.length : Int)) Ay Au AJ AB) else (ak.j1 D8 AO Bu true Ay Au AJ AB)) = some r:=H
     have Om:=Aside0.mk IY
     clear IY
     by_cases Gy : (CK.length : Int) = 0
     ·rw [if_pos Gy] at H
      have c47b0 : ((CK.length : Int) == 0) = true:=beq_iff_eq.mpr Gy
      have c47b1 : ((CK.length : Int) != 0) = false:=bne_eq_false_iff_eq.mpr Gy
      clear Gy
      (first|rw [c47b0]|(simp only [bH,bI];rw [c47b0])|skip)
      have H':=Aside0.mk H
      clear H
      have Oo:=Cc.out
      have Oq:=Ce.out
      have Fv : Le.cell? ⟨AA,0,none⟩ = some (.int .u64 Ay):=(ah Am.out 0).trans rfl
      have Fw : Le.cell? ⟨AA,1,none⟩ = some (.slice Bf Au.length Bg):=(ah Am.out 1).trans rfl
      have Fx:=au Am.out 0
      have Fy:=au Am.out 1
      go_wp2_with (first|((with_reducible refine bq (f:=27) rfl ?_);refine cO (some 39) rfl rfl Tryd.func27 (by kernel_rfl) rfl #[.agg #[.int .u64 Ay,.slice Bf Au.length Bg],.agg #[.int .u64 Ay,.slice Bf Au.length Bg]] rfl (by (try simp only [List.map_toArray,List.map_cons,List.map_nil]);first|done|rfl|(simp only [List.length_drop,List.length_take];rfl)|(simp (disch:=first|omega|(simp at *;omega)) only [cZ,bS,dQ];rfl)) ?_;(with_reducible refine (aA.calls D8 Ay (fun k_=>k_ < w.heap.size) _ _ Au Ay (fun k_=>k_ < w.heap.size) _ _ Au CK _ ?Bj ?Bl Om.out).mono ?_);(case Bj=>exact Kd.gU Cn.out (Kd.iq (Kd.C_F iE Cm.out) hb_));(case Bl=>exact Kd.gU Cn.out (Kd.iq (Kd.C_F iE Cm.out) hb_));rintro e Qk ⟨Mi,rfl,ho0,hb⟩;refine ⟨_,rfl,?_⟩;have Bv:=Aside0.mk (Kd.jR (kr_ Cg.out) (Kd.iX ho0) hb);have Bw:=Aside0.mk (Kd.jR (kr_ CO.out) (Kd.iX ho0) hb);have Bz:=Aside0.mk (Kd.iI (Kd.mE (Kd.mE (Kd.gQ (ok':=fun k_=>True) ho0 (fun _ hk_=>trivial)) (Kd.pY (kr_ Cg.out))) (Kd.pY (kr_ CO.out))) (aY hb_));have BP:=Aside0.mk (aM (g:=AA) (o:=.cells #[.int .u64 Ay,.slice Bf Au.length Bg] 59 (0,0)) (bk_ Am.out) hb);have BS:=Aside0.mk (aM (g:=AQ) (o:=.cells #[.int .u64 AJ,.slice BD AB.length BF] 59 (0,0)) (bk_ Ao.out) hb);have Ch:=Aside0.mk (aJ hb_ hb);clear Cg;clear CO;clear Am;clear Ao;clear HB;have Cg:=Bv;have CO:=Bw;have Gp:=Bz;have Am:=BP;have Ao:=BS;have HB:=Ch;clear Bv Bw Bz BP BS Ch;(try clear hb);(try clear hb2);(try clear hk);(try clear hi);(try clear ho0);obtain ⟨Pq,Pt,Mj⟩:=Kd.ig Gp.out;subst Mj;obtain ⟨Pv,Pw,Mk⟩:=Kd.ig Cg.out;subst Mk;obtain ⟨Px,Py,Ml⟩:=Kd.ig CO.out;subst Ml))
      go_meet
      case rel=>exact ⟨_,(((AO.length : Int) != (Bu.length : Int))),(by first|rfl|(simp;done)|(simp [*];done)),H',⟨by have:=HJ2.out;first|omega|exact Nat.le_refl _⟩,⟨by (with_reducible repeat (first|apply Kd.fA|apply Kd.fB|apply Kd.d9));exact Kd.gQ Cg.out (fun _ hk=>hk.1.2)⟩,⟨by (with_reducible repeat (first|apply Kd.fA|apply Kd.fB|apply Kd.d9));exact Kd.gQ CO.out (fun _ hk=>hk.1.2)⟩,⟨by (with_reducible repeat (first|apply aC|apply aG|apply aH));exact Am.out⟩,⟨by (with_reducible repeat (first|apply aC|apply aG|apply aH));exact Ao.out⟩,⟨hb_⟩⟩
     ·rw [if_neg Gy] at H
      have c47b0 : ((CK.length : Int) == 0) = false:=beq_eq_false_iff_ne.mpr Gy
      have c47b1 : ((CK.length : Int) != 0) = true:=bne_iff_ne.mpr Gy
      have c47b2 : ¬ (CK = []):=fun h_=>Gy (by rw [h_];rfl)
      (first|rw [c47b0]|(simp only [bH,bI];rw [c47b0])|skip)
      have H':=Aside0.mk H
      clear H
      have Ot:=Cc.out
      have Ou:=Ce.out
      have Fz : Le.cell? ⟨AA,0,none⟩ = some (.int .u64 Ay):=(ah Am.out 0).trans rfl
      have FB : Le.cell? ⟨AA,1,none⟩ = some (.slice Bf Au.length Bg):=(ah Am.out 1).trans rfl
      have FC:=au Am.out 0
      have FD:=au Am.out 1
      go_wp2_with (first|((with_reducible refine bq (f:=27) rfl ?_);refine cO (some 39) rfl rfl Tryd.func27 (by kernel_rfl) rfl #[.agg #[.int .u64 Ay,.slice Bf Au.length Bg],.agg #[.int .u64 Ay,.slice Bf Au.length Bg]] rfl (by (try simp only [List.map_toArray,List.map_cons,List.map_nil]);first|done|rfl|(simp only [List.length_drop,List.length_take];rfl)|(simp (disch:=first|omega|(simp at *;omega)) only [cZ,bS,dQ];rfl)) ?_;(with_reducible refine (aA.calls D8 Ay (fun k_=>k_ < w.heap.size) _ _ Au Ay (fun k_=>k_ < w.heap.size) _ _ Au CK _ ?Bj ?Bl Om.out).mono ?_);(case Bj=>exact Kd.gU Cn.out (Kd.iq (Kd.C_F iE Cm.out) hb_));(case Bl=>exact Kd.gU Cn.out (Kd.iq (Kd.C_F iE Cm.out) hb_));rintro e Ql ⟨Mi,rfl,ho0,hb⟩;refine ⟨_,rfl,?_⟩;have Bv:=Aside0.mk (Kd.jR (kr_ Cg.out) (Kd.iX ho0) hb);have Bw:=Aside0.mk (Kd.jR (kr_ CO.out) (Kd.iX ho0) hb);have Bz:=Aside0.mk (Kd.iI (Kd.mE (Kd.mE (Kd.gQ (ok':=fun k_=>True) ho0 (fun _ hk_=>trivial)) (Kd.pY (kr_ Cg.out))) (Kd.pY (kr_ CO.out))) (aY hb_));have BP:=Aside0.mk (aM (g:=AA) (o:=.cells #[.int .u64 Ay,.slice Bf Au.length Bg] 59 (0,0)) (bk_ Am.out) hb);have BS:=Aside0.mk (aM (g:=AQ) (o:=.cells #[.int .u64 AJ,.slice BD AB.length BF] 59 (0,0)) (bk_ Ao.out) hb);have Ch:=Aside0.mk (aJ hb_ hb);clear Cg;clear CO;clear Am;clear Ao;clear HB;have Cg:=Bv;have CO:=Bw;have Gp:=Bz;have Am:=BP;have Ao:=BS;have HB:=Ch;clear Bv Bw Bz BP BS Ch;(try clear hb);(try clear hb2);(try clear hk);(try clear hi);(try clear ho0);obtain ⟨Pz,PD,Mq⟩:=Kd.ig Gp.out;subst Mq))
      go_meet
      case rel=>exact ⟨_,(true),(by first|rfl|(simp;done)|(simp [*];done)),H',⟨by have:=HJ2.out;first|omega|exact Nat.le_refl _⟩,⟨by (with_reducible repeat (first|apply Kd.fA|apply Kd.fB|apply Kd.d9));exact Kd.gQ Cg.out (fun _ hk=>hk.1.2)⟩,⟨by (with_reducible repeat (first|apply Kd.fA|apply Kd.fB|apply Kd.d9));exact Kd.gQ CO.out (fun _ hk=>hk.1.2)⟩,⟨by (with_reducible repeat (first|apply aC|apply aG|apply aH));exact Am.out⟩,⟨by (with_reducible repeat (first|apply aC|apply aG|apply aH));exact Ao.out⟩,⟨hb_⟩⟩
    case rest =>
     clear Ij
     try clear c1
     try clear c2
     try clear p2
     try clear c3
     try clear c4
     try clear c5
     try clear c6
     try clear c7
     try clear c9
     try clear c11
     try clear c13
     try clear Oj
     try clear c24
     try clear PE
     try clear PG
     try clear Ol
     try clear c34
     try clear c37
     try clear Gy
     try clear c47b0
     try clear c47b1
     try clear c47b2
     try clear PI
     try clear PK
     try clear Eb
     try clear Ec
     try clear Ef
     try clear Eh
     try clear El
     try clear Em
     try clear Ep
     try clear Er
     try clear Eu
     try clear Ew
     try clear EA
     try clear EB
     try clear EF
     try clear EG
     try clear EJ
     try clear EK
     try clear EN
     try clear EO
     try clear ES
     try clear ET
     try clear Fv
     try clear Fw
     try clear Fz
     try clear FB
     try clear Ed
     try clear Ee
     try clear Ei
     try clear Ej
     try clear En
     try clear Eo
     try clear Es
     try clear Et
     try clear Ey
     try clear Ez
     try clear EC
     try clear ED
     try clear EH
     try clear EI
     try clear EL
     try clear EM
     try clear EP
     try clear ER
     try clear EU
     try clear EW
     try clear Fx
     try clear Fy
     try clear FC
     try clear FD
     try clear p2
     obtain ⟨kq,EX,rfl,HA,Gl,Bh,CJ,Am,Ao,HB⟩:=hcut
     cases kq with
     | zero=>exact absurd HA.out (by simp [ak.j1])
     | succ Ik =>
      have H:=HA.out
      clear HA
      simp only [ak.j1] at H
      by_cases IZ : EX = true
      ·subst IZ
       have H1 : (some false) = some r:=by rw [if_pos rfl] at H;exact H
       clear H
       have H:=H1
       clear H1
       exact absurd ((Option.some.inj H).trans HTr.out) (by decide)
      ·replace IZ:=Bool.eq_false_iff.mpr IZ
       subst IZ
       have H1 : (ak.l0 Ik AO Bu (AO.length : Int) 0 Ay Au AJ AB) = some r:=by rw [if_neg (show ¬ (false = true) by decide)] at H;exact H
       clear H
       have H:=H1
       clear H1
       have H':=Aside0.mk H
       clear H
       obtain ⟨Dt,Du,Mr⟩:=Kd.ig Bh.out
       subst Mr
       go_wp2
       go_loopg [51] Ik (fun kq v51 w'=>∃ (Az : Int),v51 = .int .i64 Az ∧ Aside0 (ak.l0 kq AO Bu (AO.length : Int) Az Ay Au AJ AB = some r) ∧ Aside0 (kq ≤ Ik) ∧ Aside0 (Kd.R k65 65 w' w.heap.size (fun k_=>some k_ ≠ (Dv : Value).ownBlock) (.slice Dt AO.length Du) AO) ∧ Aside0 (Kd.R k65 65 w' w.heap.size (fun k_=>some k_ ≠ ((.slice Dt AO.length Du) : Value).ownBlock) Dv Bu) ∧ Aside0 (w'.heap[AA]? = some (.cells #[.int .u64 Ay,(.slice Bf Au.length Bg)] 59 (0,0))) ∧ Aside0 (w'.heap[AQ]? = some (.cells #[.int .u64 AJ,(.slice BD AB.length BF)] 59 (0,0))) ∧ Aside0 (Below w.heap.size w w'))
       case atStart=>exact ⟨(0),(by first|rfl|(simp;done)|(simp [*];done)),H',⟨Nat.le_refl _⟩,⟨by (with_reducible repeat (first|apply Kd.fA|apply Kd.fB|apply Kd.d9));exact Bh.out⟩,⟨by (with_reducible repeat (first|apply Kd.fA|apply Kd.fB|apply Kd.d9));exact CJ.out⟩,⟨by (with_reducible repeat (first|apply aC|apply aG|apply aH));exact Am.out⟩,⟨by (with_reducible repeat (first|apply aC|apply aG|apply aH));exact Ao.out⟩,⟨hb_⟩⟩
       case round =>
        clear H'
        try clear c1
        try clear c2
        try clear p2
        try clear c3
        try clear c4
        try clear c5
        try clear c6
        try clear c7
        try clear c9
        try clear c11
        try clear c13
        try clear Oj
        try clear c24
        try clear PE
        try clear PG
        try clear Ol
        try clear c34
        try clear c37
        try clear Gy
        try clear c47b0
        try clear c47b1
        try clear c47b2
        try clear PI
        try clear PK
        try clear IZ
        try clear Eb
        try clear Ec
        try clear Ef
        try clear Eh
        try clear El
        try clear Em
        try clear Ep
        try clear Er
        try clear Eu
        try clear Ew
        try clear EA
        try clear EB
        try clear EF
        try clear EG
        try clear EJ
        try clear EK
        try clear EN
        try clear EO
        try clear ES
        try clear ET
        try clear Fv
        try clear Fw
        try clear Fz
        try clear FB
        try clear Ed
        try clear Ee
        try clear Ei
        try clear Ej
        try clear En
        try clear Eo
        try clear Es
        try clear Et
        try clear Ey
        try clear Ez
        try clear EC
        try clear ED
        try clear EH
        try clear EI
        try clear EL
        try clear EM
        try clear EP
        try clear ER
        try clear EU
        try clear EW
        try clear Fx
        try clear Fy
        try clear FC
        try clear FD
        try clear p2
        obtain ⟨Az,rfl,HA,II,Bh,CJ,Am,Ao,HB⟩:=hrel
        cases gk with
        | zero=>exact absurd HA.out (by simp [ak.l0])
        | succ k3 =>
         have H:=HA.out
         clear HA
         simp only [ak.l0] at H
         by_cases IJ : Az < (AO.length : Int)
         ·rw [if_pos IJ] at H
          have c60b0 : decide (Az < (AO.length : Int)) = true:=decide_eq_true IJ
          clear IJ
          by_cases Lf : 0 ≤ Az
          ·rw [if_pos Lf] at H
           have c61b0 : decide (0 ≤ Az) = true:=decide_eq_true Lf
           clear Lf
           by_cases Lg : Az < (AO.length : Int)
           ·rw [if_pos Lg] at H
            have c62b0 : decide (Az < (AO.length : Int)) = true:=decide_eq_true Lg
            clear Lg
            by_cases Lh : Az < (Bu.length : Int)
            ·rw [if_pos Lh] at H
             have c63b0 : decide (Az < (Bu.length : Int)) = true:=decide_eq_true Lh
             clear Lh
             by_cases c64 : ((dB AO Az).f1).toList = ((dB Bu Az).f1).toList
             ·rw [if_pos c64] at H
              have c64b0 : (((dB AO Az).f1).toList == ((dB Bu Az).f1).toList) = true:=beq_iff_eq.mpr c64
              have c64b1 : (((dB AO Az).f1).toList != ((dB Bu Az).f1).toList) = false:=bne_eq_false_iff_eq.mpr c64
              clear c64
              by_cases Il : (wrap64 (((dB AO Az).f0) + ((dB Bu Az).f0))) = 2
              ·rw [if_pos Il] at H
               have c65b0 : ((wrap64 (((dB AO Az).f0) + ((dB Bu Az).f0))) == 2) = true:=beq_iff_eq.mpr Il
               have c65b1 : ((wrap64 (((dB AO Az).f0) + ((dB Bu Az).f0))) != 2) = false:=bne_eq_false_iff_eq.mpr Il
               clear Il
               have H':=Aside0.mk H
               clear H
               try go_wp2
               have Bv:=Aside0.mk (Kd.d9 Bh.out)
               have Bw:=Aside0.mk (Kd.d9 CJ.out)
               have Bz:=Aside0.mk (aG Am.out)
               have BP:=Aside0.mk (aG Ao.out)
               have BS:=Aside0.mk (aZ HB.out)
               clear Bh
               clear CJ
               clear Am
               clear Ao
               clear HB
               have Bh:=Bv
               have CJ:=Bw
               have Am:=Bz
               have Ao:=BP
               have HB:=BS
               clear Bv Bw Bz BP BS
               have Im : 0 ≤ (Az : Int):=of_decide_eq_true (by first|(with_reducible assumption)|assumption)
               have Io : Az < (AO.length : Int):=of_decide_eq_true (by first|(with_reducible assumption)|assumption)
               obtain ⟨CP,e298,FE,FH,FI⟩:=oo (Kd.gI Bh.out).2.2 Az Im Io
               cases e298
               replace Im:=eq_true Im
               replace Io:=eq_true Io
               obtain ⟨PL,PN,I4⟩:=Kd.ig CJ.out
               (first|subst I4|(injection I4 with H9 I5 Ia;have I6:=H9.symm;have I7:=Ia.symm;clear H9 I5 Ia;subst I6;subst I7))
               have Ip : 0 ≤ (Az : Int):=of_decide_eq_true (by first|(with_reducible assumption)|assumption)
               have Iq : Az < (Bu.length : Int):=of_decide_eq_true (by first|(with_reducible assumption)|assumption)
               obtain ⟨CQ,e299,FJ,FL,FM⟩:=oo (Kd.gI CJ.out).2.2 Az Ip Iq
               cases e299
               replace Ip:=eq_true Ip
               replace Iq:=eq_true Iq
               have Ir : 0 ≤ (Az : Int):=of_decide_eq_true (by first|(with_reducible assumption)|assumption)
               have Iu : Az < (AO.length : Int):=of_decide_eq_true (by first|(with_reducible assumption)|assumption)
               obtain ⟨I8,e300,FN,FP,FQ⟩:=oo (Kd.gI Bh.out).2.2 Az Ir Iu
               obtain rfl : CP = I8:=(by injection e300)
               replace Ir:=eq_true Ir
               replace Iu:=eq_true Iu
               have Iw : 0 ≤ (Az : Int):=of_decide_eq_true (by first|(with_reducible assumption)|assumption)
               have Iy : Az < (Bu.length : Int):=of_decide_eq_true (by first|(with_reducible assumption)|assumption)
               obtain ⟨I9,e301,FR,FT,FU⟩:=oo (Kd.gI CJ.out).2.2 Az Iw Iy
               obtain rfl : CQ = I9:=(by injection e301)
               replace Iw:=eq_true Iw
               replace Iy:=eq_true Iy
               refine fu (n:=25) (S:=fun w'=>w'.cell? (CP.add ((Az).toNat * 3)) = some (.int .i64 ((dB AO Az).f0)) ∧ w'.cell? ⟨(CP.add ((Az).toNat * 3)).block,(CP.add ((Az).toNat * 3)).off + 1,none⟩ = some (.string ((dB AO Az).f1)) ∧ w'.cell? ⟨(CP.add ((Az).toNat * 3)).block,(CP.add ((Az).toNat * 3)).off + 2,none⟩ = some (.string ((dB AO Az).f2)) ∧ w'.cell? (CQ.add ((Az).toNat * 3)) = some (.int .i64 ((dB Bu Az).f0)) ∧ w'.cell? ⟨(CQ.add ((Az).toNat * 3)).block,(CQ.add ((Az).toNat * 3)).off + 1,none⟩ = some (.string ((dB Bu Az).f1)) ∧ w'.cell? ⟨(CQ.add ((Az).toNat * 3)).block,(CQ.add ((Az).toNat * 3)).off + 2,none⟩ = some (.string ((dB Bu Az).f2)) ∧ w'.cell? (CP.add ((Az).toNat * 3)) = some (.int .i64 ((dB AO Az).f0)) ∧ w'.cell? ⟨(CP.add ((Az).toNat * 3)).block,(CP.add ((Az).toNat * 3)).off + 1,none⟩ = some (.string ((dB AO Az).f1)) ∧ w'.cell? ⟨(CP.add ((Az).toNat * 3)).block,(CP.add ((Az).toNat * 3)).off + 2,none⟩ = some (.string ((dB AO Az).f2)) ∧ w'.cell? (CQ.add ((Az).toNat * 3)) = some (.int .i64 ((dB Bu Az).f0)) ∧ w'.cell? ⟨(CQ.add ((Az).toNat * 3)).block,(CQ.add ((Az).toNat * 3)).off + 1,none⟩ = some (.string ((dB Bu Az).f1)) ∧ w'.cell? ⟨(CQ.add ((Az).toNat * 3)).block,(CQ.add ((Az).toNat * 3)).off + 2,none⟩ = some (.string ((dB Bu Az).f2))) (ds:=[]) #[O,O,O,O,O,O,O,O,O,O,O,O,O,O,O,O,O,O,O,O,O,O,O,O,O] (by kernel_rfl) rfl rfl ⟨FE,FH,FI,FJ,FL,FM,FN,FP,FQ,FR,FT,FU⟩ (fun hHeld=>?_);refine dR ak.rM ak.oz (fun HT_ HW_=>?_)
               generalize wr.drew = Qm at Bh CJ Am Ao HB FE FH FI FJ FL FM FN FP FQ FR FT FU hHeld ⊢
               refine pu_ 0 54 #[I,O,O,O,O,O,O,O,O,O,O,O,O,O,O,O,O,O,O,O,O,O,O,O,O] HT_.out ?_
               refine pu_ 1 55 #[I,I,O,O,O,O,O,O,O,O,O,O,O,O,O,O,O,O,O,O,O,O,O,O,O] HT_.out ?_
               refine pu_ 2 56 #[I,I,I,O,O,O,O,O,O,O,O,O,O,O,O,O,O,O,O,O,O,O,O,O,O] HT_.out ?_
               refine pu_ 3 57 #[I,I,I,I,O,O,O,O,O,O,O,O,O,O,O,O,O,O,O,O,O,O,O,O,O] HT_.out ?_
               refine pu_ 5 59 #[I,I,I,I,O,I,O,O,O,O,O,O,O,O,O,O,O,O,O,O,O,O,O,O,O] HT_.out ?_
               refine pu_ 6 60 #[I,I,I,I,O,I,I,O,O,O,O,O,O,O,O,O,O,O,O,O,O,O,O,O,O] HT_.out ?_
               refine pu_ 7 61 #[I,I,I,I,O,I,I,I,O,O,O,O,O,O,O,O,O,O,O,O,O,O,O,O,O] HT_.out ?_
               refine pu_ 8 62 #[I,I,I,I,O,I,I,I,I,O,O,O,O,O,O,O,O,O,O,O,O,O,O,O,O] HT_.out ?_
               refine ta_ 4 58 #[I,I,I,I,I,I,I,I,I,O,O,O,O,O,O,O,O,O,O,O,O,O,O,O,O] HT_.out HW_.out hHeld ?_
               refine ta_ 9 63 #[I,I,I,I,I,I,I,I,I,I,O,O,O,O,O,O,O,O,O,O,O,O,O,O,O] HT_.out HW_.out hHeld ?_
               refine pu_ 10 64 #[I,I,I,I,I,I,I,I,I,I,I,O,O,O,O,O,O,O,O,O,O,O,O,O,O] HT_.out ?_
               refine pu_ 11 65 #[I,I,I,I,I,I,I,I,I,I,I,I,O,O,O,O,O,O,O,O,O,O,O,O,O] HT_.out ?_
               refine pu_ 12 66 #[I,I,I,I,I,I,I,I,I,I,I,I,I,O,O,O,O,O,O,O,O,O,O,O,O] HT_.out ?_
               refine pu_ 13 67 #[I,I,I,I,I,I,I,I,I,I,I,I,I,I,O,O,O,O,O,O,O,O,O,O,O] HT_.out ?_
               refine pu_ 14 68 #[I,I,I,I,I,I,I,I,I,I,I,I,I,I,I,O,O,O,O,O,O,O,O,O,O] HT_.out ?_
               refine pu_ 15 69 #[I,I,I,I,I,I,I,I,I,I,I,I,I,I,I,I,O,O,O,O,O,O,O,O,O] HT_.out ?_
               refine pu_ 17 71 #[I,I,I,I,I,I,I,I,I,I,I,I,I,I,I,I,O,I,O,O,O,O,O,O,O] HT_.out ?_
               refine pu_ 18 72 #[I,I,I,I,I,I,I,I,I,I,I,I,I,I,I,I,O,I,I,O,O,O,O,O,O] HT_.out ?_
               refine pu_ 19 73 #[I,I,I,I,I,I,I,I,I,I,I,I,I,I,I,I,O,I,I,I,O,O,O,O,O] HT_.out ?_
               refine pu_ 20 74 #[I,I,I,I,I,I,I,I,I,I,I,I,I,I,I,I,O,I,I,I,I,O,O,O,O] HT_.out ?_
               refine ta_ 16 70 #[I,I,I,I,I,I,I,I,I,I,I,I,I,I,I,I,I,I,I,I,I,O,O,O,O] HT_.out HW_.out hHeld ?_
               refine ta_ 21 75 #[I,I,I,I,I,I,I,I,I,I,I,I,I,I,I,I,I,I,I,I,I,I,O,O,O] HT_.out HW_.out hHeld ?_
               refine pu_ 22 76 #[I,I,I,I,I,I,I,I,I,I,I,I,I,I,I,I,I,I,I,I,I,I,I,O,O] HT_.out ?_
               refine pu_ 23 77 #[I,I,I,I,I,I,I,I,I,I,I,I,I,I,I,I,I,I,I,I,I,I,I,I,O] HT_.out ?_
               refine pu_ 24 78 #[I,I,I,I,I,I,I,I,I,I,I,I,I,I,I,I,I,I,I,I,I,I,I,I,I] HT_.out ?_
               refine gJ (eH HT_.out (by kernel_rfl)) ?_
               try go_wp2
               go_roundg k3
               case measure=>have:=HJ2.out;have:=Gl.out;have:=II.out;omega
               case rel=>exact ⟨(wrap64 (Az + 1)),(by first|rfl|(simp;done)|(simp [*];done)),H',⟨by have:=HJ2.out;have:=Gl.out;have:=II.out;omega⟩,⟨by (with_reducible repeat (first|apply Kd.fA|apply Kd.fB|apply Kd.d9));exact Bh.out⟩,⟨by (with_reducible repeat (first|apply Kd.fA|apply Kd.fB|apply Kd.d9));exact CJ.out⟩,⟨by (with_reducible repeat (first|apply aC|apply aG|apply aH));exact Am.out⟩,⟨by (with_reducible repeat (first|apply aC|apply aG|apply aH));exact Ao.out⟩,⟨hb_⟩⟩
              ·rw [if_neg Il] at H
               have c65b0 : ((wrap64 (((dB AO Az).f0) + ((dB Bu Az).f0))) == 2) = false:=beq_eq_false_iff_ne.mpr Il
               have c65b1 : ((wrap64 (((dB AO Az).f0) + ((dB Bu Az).f0))) != 2) = true:=bne_iff_ne.mpr Il
               exact absurd ((Option.some.inj H).trans HTr.out) (by decide)
             ·rw [if_neg c64] at H
              have c64b0 : (((dB AO Az).f1).toList == ((dB Bu Az).f1).toList) = false:=beq_eq_false_iff_ne.mpr c64
              have c64b1 : (((dB AO Az).f1).toList != ((dB Bu Az).f1).toList) = true:=bne_iff_ne.mpr c64
              exact absurd ((Option.some.inj H).trans HTr.out) (by decide)
            ·rw [if_neg Lh] at H
             exact absurd H (by simp)
           ·rw [if_neg Lg] at H
            exact absurd H (by simp)
          ·rw [if_neg Lf] at H
           exact absurd H (by simp)
         ·rw [if_neg IJ] at H
          have c60b0 : decide (Az < (AO.length : Int)) = false:=decide_eq_false IJ
          clear IJ
          replace H:=Option.bind_eq_some_iff.mp H
          obtain ⟨⟨BG,AP⟩,Ja,H⟩:=H
          replace H : ((dL.f AJ AB).bind fun DK=>(ak.l1 k3 AO ((AP.length : Int) == (DK.2.length : Int)) 0 BG AP DK.1 DK.2)) = some r:=H
          have PO:=Aside0.mk Ja
          clear Ja
          replace H:=Option.bind_eq_some_iff.mp H
          obtain ⟨⟨BH,AU⟩,Jb,H⟩:=H
          replace H : (ak.l1 k3 AO ((AP.length : Int) == (AU.length : Int)) 0 BG AP BH AU) = some r:=H
          have PS:=Aside0.mk Jb
          clear Jb
          have H':=Aside0.mk H
          clear H
          try go_wp2
          have Bv:=Aside0.mk (Kd.d9 Bh.out)
          have Bw:=Aside0.mk (Kd.d9 CJ.out)
          have Bz:=Aside0.mk (aG Am.out)
          have BP:=Aside0.mk (aG Ao.out)
          have BS:=Aside0.mk (aZ HB.out)
          clear Bh
          clear CJ
          clear Am
          clear Ao
          clear HB
          have Bh:=Bv
          have CJ:=Bw
          have Am:=Bz
          have Ao:=BP
          have HB:=BS
          clear Bv Bw Bz BP BS
          refine fu (n:=8) (S:=fun w'=>w'.cell? ⟨AA,0,none⟩ = some (.int .u64 Ay) ∧ w'.cell? ⟨AA,1,none⟩ = some (.slice Bf Au.length Bg) ∧ w'.cell? ⟨AQ,0,none⟩ = some (.int .u64 AJ) ∧ w'.cell? ⟨AQ,1,none⟩ = some (.slice BD AB.length BF)) (ds:=[]) #[O,O,O,O,O,O,O,O] (by kernel_rfl) rfl rfl ⟨(ah Am.out 0).trans rfl,(ah Am.out 1).trans rfl,(ah Ao.out 0).trans rfl,(ah Ao.out 1).trans rfl⟩ (fun hHeld=>?_);refine dR ak.zS ak.za (fun HT_ HW_=>?_)
          generalize wr.drew = Qn at Bh CJ Am Ao HB hHeld ⊢
          refine ta_ 0 80 #[I,O,O,O,O,O,O,O] HT_.out HW_.out hHeld ?_
          refine ta_ 2 82 #[I,O,I,O,O,O,O,O] HT_.out HW_.out hHeld ?_
          refine xM (σ:=Value × Value × Nat × Nat) 2 #[I,I,I,I,I,I,O,O] (fun s_=>[(81,.agg #[.int .u64 BG,s_.1]),(83,.agg #[.int .u64 BH,s_.2.1]),(8,.pointer (some ⟨s_.2.2.1,0,none⟩)),(9,.pointer (some ⟨s_.2.2.2,0,none⟩))]) (fun s_ w'=>(w'.cell? ⟨AA,0,none⟩ = some (.int .u64 Ay) ∧ w'.cell? ⟨AA,1,none⟩ = some (.slice Bf Au.length Bg) ∧ w'.cell? ⟨AQ,0,none⟩ = some (.int .u64 AJ) ∧ w'.cell? ⟨AQ,1,none⟩ = some (.slice BD AB.length BF)) ∧ (Kd.V k71 71 w' w.heap.size (fun k_=>some k_ ≠ (.slice Dt AO.length Du : Value).ownBlock ∧ some k_ ≠ (Dv : Value).ownBlock ∧ k_ ≠ AA ∧ k_ ≠ AQ ∧ k_ ≠ s_.2.2.1 ∧ k_ ≠ s_.2.2.2) s_.1 AP) ∧ (Kd.V k71 71 w' w.heap.size (fun k_=>some k_ ≠ (.slice Dt AO.length Du : Value).ownBlock ∧ some k_ ≠ (Dv : Value).ownBlock ∧ k_ ≠ AA ∧ k_ ≠ AQ ∧ k_ ≠ s_.2.2.1 ∧ k_ ≠ s_.2.2.2) s_.2.1 AU) ∧ (Kd.R k65 65 w' w.heap.size (fun k_=>some k_ ≠ (Dv : Value).ownBlock) (.slice Dt AO.length Du) AO) ∧ (Kd.R k65 65 w' w.heap.size (fun k_=>some k_ ≠ (.slice Dt AO.length Du : Value).ownBlock) Dv Bu) ∧ (w'.heap[AA]? = some (.cells #[.int .u64 Ay,.slice Bf Au.length Bg] 59 (0,0))) ∧ (w'.heap[AQ]? = some (.cells #[.int .u64 AJ,.slice BD AB.length BF] 59 (0,0))) ∧ (w'.heap[s_.2.2.1]? = some (.cells #[.int .u64 0,.slice none 0 0] 68 (0,0))) ∧ (w'.heap[s_.2.2.2]? = some (.cells #[.int .u64 0,.slice none 0 0] 68 (0,0))) ∧ (w.heap.size ≤ s_.2.2.1) ∧ (w.heap.size ≤ s_.2.2.1) ∧ (AA ≠ s_.2.2.1) ∧ (s_.2.2.1 ≠ AA) ∧ (AQ ≠ s_.2.2.1) ∧ (s_.2.2.1 ≠ AQ) ∧ (s_.2.2.2 ≠ s_.2.2.1) ∧ (s_.2.2.1 ≠ s_.2.2.2) ∧ (w.heap.size ≤ s_.2.2.2) ∧ (w.heap.size ≤ s_.2.2.2) ∧ (AA ≠ s_.2.2.2) ∧ (s_.2.2.2 ≠ AA) ∧ (AQ ≠ s_.2.2.2) ∧ (s_.2.2.2 ≠ AQ) ∧ (Below w.heap.size w w')) ?_ ?_
          rotate_left
          ·intro hJ
           have HL := Aside0.mk (LB.start (ta := AP) (tb := AU) HB.out)
           repeat' (first
            | exact eO.nil
            | (refine ac_ 1 81 (fun K hK => ?_) ?_; (refine eZ Tryd.func28 (by kernel_rfl) rfl #[.agg #[.int .u64 Ay, .slice Bf Au.length Bg]] (by rfl) rfl rfl (by (try simp only [List.map_toArray, List.map_cons, List.map_nil]); first | done | rfl) ?_; refine (dL.calls Ay (fun k_ => k_ < w.heap.size) _ _ Au BG AP _ (Kd.gU Cn.out (Kd.iq (Kd.C_F iE Cm.out) HL.out.s)) PO.out).mono ?_; rintro e w1 ⟨va, rfl, hV, hb⟩; refine ⟨_, rfl, ?_⟩; replace HL := Aside0.mk (HL.out.zB hV hb); clear hb hV; refine hK.out _ _ ⟨(ah (aM Am.out HL.out.d) 0).trans rfl, (ah (aM Am.out HL.out.d) 1).trans rfl, (ah (aM Ao.out HL.out.d) 0).trans rfl, (ah (aM Ao.out HL.out.d) 1).trans rfl⟩ (fun hHeld => ?_); clear hK K; refine nm_ 81 ?_))
            | (refine ac_ 3 83 (fun K hK => ?_) ?_; (refine eZ Tryd.func28 (by kernel_rfl) rfl #[.agg #[.int .u64 AJ, .slice BD AB.length BF]] (by rfl) rfl rfl (by (try simp only [List.map_toArray, List.map_cons, List.map_nil]); first | done | rfl) ?_; refine (dL.calls AJ (fun k_ => k_ < w.heap.size) _ _ AB BH AU _ (Kd.gU DN.out (Kd.iq (Kd.C_F iE DL.out) HL.out.s)) PS.out).mono ?_; rintro e w1 ⟨vb, rfl, hV, hb⟩; refine ⟨_, rfl, ?_⟩; replace HL := Aside0.mk (HL.out.zC hV hb); clear hb hV; refine hK.out _ _ ⟨(ah (aM Am.out HL.out.d) 0).trans rfl, (ah (aM Am.out HL.out.d) 1).trans rfl, (ah (aM Ao.out HL.out.d) 0).trans rfl, (ah (aM Ao.out HL.out.d) 1).trans rfl⟩ (fun hHeld => ?_); clear hK K; refine nm_ 83 ?_))
            | (refine ac_ 4 8 (fun K hK => ?_) ?_; (refine jS ?hg (N := 8) ?hd (cs := #[.int .u64 0, .slice none 0 0]) (t := 68) ?hr ?_; (case hd => rfl); (case hg => rfl); (case hr => first | (go_simp; done) | (go_simp; rfl)); intro gx hg w1 hbox hb; replace HL := Aside0.mk (HL.out.box hg hbox hb); clear hg hbox hb; refine hK.out _ _ ⟨(ah (aM Am.out HL.out.d) 0).trans rfl, (ah (aM Am.out HL.out.d) 1).trans rfl, (ah (aM Ao.out HL.out.d) 0).trans rfl, (ah (aM Ao.out HL.out.d) 1).trans rfl⟩ (fun hHeld => ?_); clear hK K; refine nm_ 8 ?_))
            | (refine ac_ 5 9 (fun K hK => ?_) ?_; (refine jS ?hg (N := 9) ?hd (cs := #[.int .u64 0, .slice none 0 0]) (t := 68) ?hr ?_; (case hd => rfl); (case hg => rfl); (case hr => first | (go_simp; done) | (go_simp; rfl)); intro gy hg w1 hbox hb; replace HL := Aside0.mk (HL.out.box hg hbox hb); clear hg hbox hb; refine hK.out _ _ ⟨(ah (aM Am.out HL.out.d) 0).trans rfl, (ah (aM Am.out HL.out.d) 1).trans rfl, (ah (aM Ao.out HL.out.d) 0).trans rfl, (ah (aM Ao.out HL.out.d) 1).trans rfl⟩ (fun hHeld => ?_); clear hK K; refine nm_ 9 ?_))
            | (refine ln_ #[I,I,I,I,I,I,O,O] (by decide +kernel) ?_; exact dU (by first | (simp only [jX, Act.put, List.setIfInBounds_toArray, List.set_cons_zero, List.set_cons_succ]; done) | (simp only [jX, Act.put, List.setIfInBounds_toArray, List.set_cons_zero, List.set_cons_succ]; rfl)) (hJ (va, vb, gx, gy) _ ⟨hHeld, by first | exact HL.out.six Bh.out CJ.out Am.out Ao.out H7.out H8.out | exact HL.out.swap.six Bh.out CJ.out Am.out Ao.out H7.out H8.out⟩))
            | refine rd_ [1, 4, 5] HT_.out (by decide +kernel) ?_
            | refine rd_ [3, 4, 5] HT_.out (by decide +kernel) ?_
            | refine rd_ [4, 5] HT_.out (by decide +kernel) ?_
            | refine rd_ [1, 4] HT_.out (by decide +kernel) ?_
            | refine rd_ [1, 5] HT_.out (by decide +kernel) ?_
            | refine rd_ [3, 4] HT_.out (by decide +kernel) ?_
            | refine rd_ [3, 5] HT_.out (by decide +kernel) ?_
            | refine rd_ [1] HT_.out (by decide +kernel) ?_
            | refine rd_ [3] HT_.out (by decide +kernel) ?_
            | refine rd_ [4] HT_.out (by decide +kernel) ?_
            | refine rd_ [5] HT_.out (by decide +kernel) ?_)
          rintro ⟨Ms,Mt,AV,AX⟩ D9 ⟨hS_,Ov,Ow,Ox,Oy,Oz,OA,OB,OC,OD,OE,Jc,Jd,Je,Jf,Jg,Jh,Ji,Jj,Jk,Jl,Jm,Jo,Jp⟩
          have Bv : Aside0 (Kd.V k71 71 D9 w.heap.size (fun k_=>some k_ ≠ (.slice Dt AO.length Du : Value).ownBlock ∧ some k_ ≠ (Dv : Value).ownBlock ∧ k_ ≠ AA ∧ k_ ≠ AQ ∧ k_ ≠ AV ∧ k_ ≠ AX) Ms AP):=⟨Ov⟩
          have Bw : Aside0 (Kd.V k71 71 D9 w.heap.size (fun k_=>some k_ ≠ (.slice Dt AO.length Du : Value).ownBlock ∧ some k_ ≠ (Dv : Value).ownBlock ∧ k_ ≠ AA ∧ k_ ≠ AQ ∧ k_ ≠ AV ∧ k_ ≠ AX) Mt AU):=⟨Ow⟩
          have Bz : Aside0 (Kd.R k65 65 D9 w.heap.size (fun k_=>some k_ ≠ (Dv : Value).ownBlock) (.slice Dt AO.length Du) AO):=⟨Ox⟩
          have BP : Aside0 (Kd.R k65 65 D9 w.heap.size (fun k_=>some k_ ≠ (.slice Dt AO.length Du : Value).ownBlock) Dv Bu):=⟨Oy⟩
          have BS : Aside0 (D9.heap[AA]? = some (.cells #[.int .u64 Ay,.slice Bf Au.length Bg] 59 (0,0))):=⟨Oz⟩
          have Ch : Aside0 (D9.heap[AQ]? = some (.cells #[.int .u64 AJ,.slice BD AB.length BF] 59 (0,0))):=⟨OA⟩
          have CG : Aside0 (D9.heap[AV]? = some (.cells #[.int .u64 0,.slice none 0 0] 68 (0,0))):=⟨OB⟩
          have CS : Aside0 (D9.heap[AX]? = some (.cells #[.int .u64 0,.slice none 0 0] 68 (0,0))):=⟨OC⟩
          have Jq : Aside0 (w.heap.size ≤ AV):=⟨OD⟩
          have Jr : Aside0 (w.heap.size ≤ AV):=⟨OE⟩
          have Gq : Aside0 (AA ≠ AV):=⟨Jc⟩
          have Gr : Aside0 (AV ≠ AA):=⟨Jd⟩
          have Gs : Aside0 (AQ ≠ AV):=⟨Je⟩
          have Gt : Aside0 (AV ≠ AQ):=⟨Jf⟩
          have Gu : Aside0 (AX ≠ AV):=⟨Jg⟩
          have Gv : Aside0 (AV ≠ AX):=⟨Jh⟩
          have Js : Aside0 (w.heap.size ≤ AX):=⟨Ji⟩
          have Jt : Aside0 (w.heap.size ≤ AX):=⟨Jj⟩
          have Ju : Aside0 (AA ≠ AX):=⟨Jk⟩
          have Jv : Aside0 (AX ≠ AA):=⟨Jl⟩
          have Jw : Aside0 (AQ ≠ AX):=⟨Jm⟩
          have Jy : Aside0 (AX ≠ AQ):=⟨Jo⟩
          have Jz : Aside0 (Below w.heap.size w D9):=⟨Jp⟩
          clear Bh
          clear CJ
          clear Am
          clear Ao
          clear HB
          clear Ov Ow Ox Oy Oz OA OB OC OD OE Jc Jd Je Jf Jg Jh Ji Jj Jk Jl Jm Jo Jp
          have Ib:=Bv
          have Ic:=Bw
          have Bh:=Bz
          have CJ:=BP
          have Am:=BS
          have Ao:=Ch
          have Aw:=CG
          have AL:=CS
          have OG:=Jq
          have OH:=Jr
          have Bn:=Gq
          have BI:=Gr
          have Bo:=Gs
          have BJ:=Gt
          have Bp:=Gu
          have Bq:=Gv
          have OI:=Js
          have OJ:=Jt
          have Br:=Ju
          have BQ:=Jv
          have Bt:=Jw
          have BR:=Jy
          have HB:=Jz
          clear Bv Bw Bz BP BS Ch CG CS Jq Jr Gq Gr Gs Gt Gu Gv Js Jt Ju Jv Jw Jy Jz
          have hHeld : D9.cell? ⟨AA,0,none⟩ = some (.int .u64 Ay) ∧ D9.cell? ⟨AA,1,none⟩ = some (.slice Bf Au.length Bg) ∧ D9.cell? ⟨AQ,0,none⟩ = some (.int .u64 AJ) ∧ D9.cell? ⟨AQ,1,none⟩ = some (.slice BD AB.length BF):=hS_
          obtain ⟨Ck,BZ,JA⟩:=Kd.fO Ib.out
          (first|subst JA|(injection JA with H9 I5 Ia;have I6:=H9.symm;have I7:=Ia.symm;clear H9 I5 Ia;subst I6;subst I7))
          obtain ⟨CU,Co,JB⟩:=Kd.fO Ic.out
          (first|subst JB|(injection JB with H9 I5 Ia;have I6:=H9.symm;have I7:=Ia.symm;clear H9 I5 Ia;subst I6;subst I7))
          refine dU (a':=?_) ?_ ?_
          rotate_left
          ·simp only [jX,Act.put,List.setIfInBounds_toArray,List.set_cons_zero,List.set_cons_succ]
           rfl
          refine gG (i:=6) (N:=none) #[I,I,I,I,I,I,I,O] rfl rfl (dw HT_.out (by kernel_rfl)) (by decide) (fun K hK=>?_)
          have PU : D9.cell? ⟨AV,0,none⟩ = some (.int .u64 0):=(ah Aw.out 0).trans rfl
          have OL:=au Aw.out 0
          have Li:=Bn.out
          have Lj:=Bo.out
          have Ll:=Bp.out
          have Lm:=BI.out
          have Lp:=BJ.out
          have Lr:=Bq.out
          have PV : D9.cell? ⟨AV,1,none⟩ = some (.slice none 0 0):=(ah Aw.out 1).trans rfl
          have OM:=au Aw.out 1
          have Ls:=Bn.out
          have Lu:=Bo.out
          have Lv:=Bp.out
          have Lx:=BI.out
          have LA:=BJ.out
          have LC:=Bq.out
          refine kC (w1:=?_) (by rfl) rfl ?_ ?_
          rotate_left
          ·go_simp
           rfl
          refine hK.out _ _ ⟨((cell_far (p:=⟨AV,_,none⟩) Bn.out _).trans (((cell_far (p:=⟨AV,_,none⟩) Bn.out _).trans (hHeld.1)))),((cell_far (p:=⟨AV,_,none⟩) Bn.out _).trans (((cell_far (p:=⟨AV,_,none⟩) Bn.out _).trans (hHeld.2.1)))),((cell_far (p:=⟨AV,_,none⟩) Bo.out _).trans (((cell_far (p:=⟨AV,_,none⟩) Bo.out _).trans (hHeld.2.2.1)))),((cell_far (p:=⟨AV,_,none⟩) Bo.out _).trans (((cell_far (p:=⟨AV,_,none⟩) Bo.out _).trans (hHeld.2.2.2))))⟩ (fun hHeld=>?_)
          clear hK K
          refine gG (i:=7) (N:=none) #[I,I,I,I,I,I,I,I] rfl rfl (dw HT_.out (by kernel_rfl)) (by decide) (fun K hK=>?_)
          have PW : D9.cell? ⟨AX,0,none⟩ = some (.int .u64 0):=(ah AL.out 0).trans rfl
          have OO:=au AL.out 0
          have LD:=Br.out
          have LG:=Bt.out
          have LJ:=Bq.out
          have LK:=BQ.out
          have LP:=BR.out
          have LQ:=Bp.out
          have PX : D9.cell? ⟨AX,1,none⟩ = some (.slice none 0 0):=(ah AL.out 1).trans rfl
          have OP:=au AL.out 1
          have LU:=Br.out
          have LV:=Bt.out
          have LW:=Bq.out
          have LY:=BQ.out
          have LZ:=BR.out
          have L6:=Bp.out
          refine kC (w1:=?_) (by rfl) rfl ?_ ?_
          rotate_left
          ·go_simp
           rfl
          refine hK.out _ _ ⟨((cell_far (p:=⟨AX,_,none⟩) Br.out _).trans (((cell_far (p:=⟨AX,_,none⟩) Br.out _).trans (hHeld.1)))),((cell_far (p:=⟨AX,_,none⟩) Br.out _).trans (((cell_far (p:=⟨AX,_,none⟩) Br.out _).trans (hHeld.2.1)))),((cell_far (p:=⟨AX,_,none⟩) Bt.out _).trans (((cell_far (p:=⟨AX,_,none⟩) Bt.out _).trans (hHeld.2.2.1)))),((cell_far (p:=⟨AX,_,none⟩) Bt.out _).trans (((cell_far (p:=⟨AX,_,none⟩) Bt.out _).trans (hHeld.2.2.2))))⟩ (fun hHeld=>?_)
          clear hK K
          refine gJ (eH HT_.out (by kernel_rfl)) ?_
          have OQ:=BI.out
          have OT:=Bn.out
          have OU:=BJ.out
          have OV:=Bo.out
          have OW:=Bq.out
          have OX:=Bp.out
          have GA : D9.cell? ⟨AV,0,none⟩ = some (.int .u64 0):=(ah Aw.out 0).trans rfl
          have GD : D9.cell? ⟨AV,1,none⟩ = some (.slice none 0 0):=(ah Aw.out 1).trans rfl
          have GI:=au Aw.out 0
          have GJ:=au Aw.out 1
          have OY:=BQ.out
          have OZ:=Br.out
          have O1:=BR.out
          have O6:=Bt.out
          have GK : D9.cell? ⟨AX,0,none⟩ = some (.int .u64 0):=(ah AL.out 0).trans rfl
          have GL : D9.cell? ⟨AX,1,none⟩ = some (.slice none 0 0):=(ah AL.out 1).trans rfl
          have GN:=au AL.out 0
          have GQ:=au AL.out 1
          try go_wp2
          go_loopg [10,11] k3 (fun kq v10 v11 w'=>∃ (FV : Bool) (Al : Int),v10 = .bool FV ∧ v11 = .int .i64 Al ∧ Aside0 (ak.l1 kq AO FV Al BG AP BH AU = some r) ∧ Aside0 (kq ≤ k3) ∧ Aside0 (Kd.R k65 65 w' w.heap.size (fun _=>True) (.slice Dt AO.length Du) AO) ∧ Aside0 (Kd.V k71 71 w' w.heap.size (fun k_=>some k_ ≠ ((.slice Dt AO.length Du) : Value).ownBlock ∧ k_ ≠ AA ∧ k_ ≠ AQ ∧ k_ ≠ AV ∧ k_ ≠ AX) (.slice Ck AP.length BZ) AP) ∧ Aside0 (Kd.V k71 71 w' w.heap.size (fun k_=>some k_ ≠ ((.slice Dt AO.length Du) : Value).ownBlock ∧ k_ ≠ AA ∧ k_ ≠ AQ ∧ k_ ≠ AV ∧ k_ ≠ AX) (.slice CU AU.length Co) AU) ∧ Aside0 (w'.heap[AA]? = some (.cells #[.int .u64 Ay,(.slice Bf Au.length Bg)] 59 (0,0))) ∧ Aside0 (w'.heap[AQ]? = some (.cells #[.int .u64 AJ,(.slice BD AB.length BF)] 59 (0,0))) ∧ Aside0 (w'.heap[AV]? = some (.cells #[.int .u64 BG,(.slice Ck AP.length BZ)] 68 (0,0))) ∧ Aside0 (w'.heap[AX]? = some (.cells #[.int .u64 BH,(.slice CU AU.length Co)] 68 (0,0))) ∧ Aside0 (Below w.heap.size w w'))
          case atStart=>exact ⟨(((AP.length : Int) == (AU.length : Int))),(0),(by first|rfl|(simp;done)|(simp [*];done)),(by first|rfl|(simp;done)|(simp [*];done)),H',⟨Nat.le_refl _⟩,⟨by (with_reducible repeat (first|apply Kd.fA|apply Kd.fB|apply Kd.d9));exact Kd.gQ (Kd.qH (p:=⟨AX,1,none⟩) (Kd.qH (p:=⟨AX,0,none⟩) (Kd.qH (p:=⟨AV,1,none⟩) (Kd.qH (p:=⟨AV,0,none⟩) (Kd.nD (Kd.nD Bh.out Aw.out (by decide)) AL.out (by decide)) (fun _ hk=>hk.1.2) (.int .u64 BG)) (fun _ hk=>hk.1.2) (.slice Ck AP.length BZ)) (fun _ hk=>hk.2) (.int .u64 BH)) (fun _ hk=>hk.2) (.slice CU AU.length Co)) (fun _ hk=>trivial)⟩,⟨by (with_reducible repeat (first|apply Kd.bP|apply Kd.bQ|apply Kd.bA));exact Kd.dO (Kd.jM (p:=⟨AX,1,none⟩) (Kd.jM (p:=⟨AX,0,none⟩) (Kd.jM (p:=⟨AV,1,none⟩) (Kd.jM (p:=⟨AV,0,none⟩) (Kd.dO (Kd.dO Ib.out (fun k_ hk=>(⟨hk,hk.2.2.2.2.1⟩ : _ ∧ k_ ≠ AV))) (fun k_ hk=>(⟨hk,hk.1.2.2.2.2.2⟩ : _ ∧ k_ ≠ AX))) (fun _ hk=>hk.1.2) (.int .u64 BG)) (fun _ hk=>hk.1.2) (.slice Ck AP.length BZ)) (fun _ hk=>hk.2) (.int .u64 BH)) (fun _ hk=>hk.2) (.slice CU AU.length Co)) (fun _ hk=>⟨hk.1.1.1,⟨hk.1.1.2.2.1,⟨hk.1.1.2.2.2.1,⟨hk.1.1.2.2.2.2.1,hk.1.1.2.2.2.2.2⟩⟩⟩⟩)⟩,⟨by (with_reducible repeat (first|apply Kd.bP|apply Kd.bQ|apply Kd.bA));exact Kd.dO (Kd.jM (p:=⟨AX,1,none⟩) (Kd.jM (p:=⟨AX,0,none⟩) (Kd.jM (p:=⟨AV,1,none⟩) (Kd.jM (p:=⟨AV,0,none⟩) (Kd.dO (Kd.dO Ic.out (fun k_ hk=>(⟨hk,hk.2.2.2.2.1⟩ : _ ∧ k_ ≠ AV))) (fun k_ hk=>(⟨hk,hk.1.2.2.2.2.2⟩ : _ ∧ k_ ≠ AX))) (fun _ hk=>hk.1.2) (.int .u64 BG)) (fun _ hk=>hk.1.2) (.slice Ck AP.length BZ)) (fun _ hk=>hk.2) (.int .u64 BH)) (fun _ hk=>hk.2) (.slice CU AU.length Co)) (fun _ hk=>⟨hk.1.1.1,⟨hk.1.1.2.2.1,⟨hk.1.1.2.2.2.1,⟨hk.1.1.2.2.2.2.1,hk.1.1.2.2.2.2.2⟩⟩⟩⟩)⟩,⟨by (with_reducible repeat (first|apply aC|apply aG|apply aH));refine cB ?_ Br.out _;(with_reducible repeat (first|apply aC|apply aG|apply aH));refine cB ?_ Br.out _;(with_reducible repeat (first|apply aC|apply aG|apply aH));refine cB ?_ Bn.out _;(with_reducible repeat (first|apply aC|apply aG|apply aH));refine cB ?_ Bn.out _;(with_reducible repeat (first|apply aC|apply aG|apply aH));exact Am.out⟩,⟨by (with_reducible repeat (first|apply aC|apply aG|apply aH));refine cB ?_ Bt.out _;(with_reducible repeat (first|apply aC|apply aG|apply aH));refine cB ?_ Bt.out _;(with_reducible repeat (first|apply aC|apply aG|apply aH));refine cB ?_ Bo.out _;(with_reducible repeat (first|apply aC|apply aG|apply aH));refine cB ?_ Bo.out _;(with_reducible repeat (first|apply aC|apply aG|apply aH));exact Ao.out⟩,⟨by (with_reducible repeat (first|apply aC|apply aG|apply aH));refine cB ?_ Bq.out _;(with_reducible repeat (first|apply aC|apply aG|apply aH));refine cB ?_ Bq.out _;(with_reducible repeat (first|apply aC|apply aG|apply aH));refine bR (cs:=#[.int .u64 BG,.slice none 0 0]) ?_ 1 _ rfl;(with_reducible repeat (first|apply aC|apply aG|apply aH));refine bR (cs:=#[.int .u64 0,.slice none 0 0]) ?_ 0 _ rfl;(with_reducible repeat (first|apply aC|apply aG|apply aH));exact Aw.out⟩,⟨by (with_reducible repeat (first|apply aC|apply aG|apply aH));refine bR (cs:=#[.int .u64 BH,.slice none 0 0]) ?_ 1 _ rfl;(with_reducible repeat (first|apply aC|apply aG|apply aH));refine bR (cs:=#[.int .u64 0,.slice none 0 0]) ?_ 0 _ rfl;(with_reducible repeat (first|apply aC|apply aG|apply aH));refine cB ?_ Bp.out _;(with_reducible repeat (first|apply aC|apply aG|apply aH));refine cB ?_ Bp.out _;(with_reducible repeat (first|apply aC|apply aG|apply aH));exact AL.out⟩,⟨hb_⟩⟩
          case round =>
           clear H'
           try clear c1
           try clear c2
           try clear p2
           try clear c8
           try clear c9
           try clear c28
           try clear Qo
           try clear c87
           try clear Qp
           try clear Qq
           try clear c91
           try clear GA
           try clear GD
           try clear GK
           try clear GL
           try clear GI
           try clear GJ
           try clear GN
           try clear GQ
           obtain ⟨FV,Al,rfl,rfl,HA,L8,Bh,Ap,Aq,Am,Ao,Aw,AL,HB⟩:=hrel
           cases gk with
           | zero=>exact absurd HA.out (by simp [ak.l1])
           | succ k4 =>
            have H:=HA.out
            clear HA
            simp only [ak.l1] at H
            by_cases c93 : FV = true
            ·subst c93
             have H1 : (if Al < (AP.length : Int) then (if 0 ≤ Al then (if Al < (AU.length : Int) then (if ((aK AP Al).f0).toList = ((aK AU Al).f0).toList then ((bB.f k4 ((aK AP Al).f1.f0) ((aK AP Al).f1.f1) ((aK AP Al).f1.f2) ((aK AP Al).f1.f3) ((aK AP Al).f1.f4) ((aK AP Al).f1.f5) ((aK AU Al).f1.f0) ((aK AU Al).f1.f1) ((aK AU Al).f1.f2) ((aK AU Al).f1.f3) ((aK AU Al).f1.f4) ((aK AU Al).f1.f5)).bind fun Fg=>(ak.l1 k4 AO Fg (wrap64 (Al + 1)) BG AP BH AU)) else (ak.l1 k4 AO false (wrap64 (Al + 1)) BG AP BH AU)) else (none)) else (none)) else ((bJ.f k4).bind fun Gh=>(if Gh = true then (if (true == ((AO.length : Int) == 0)) = true then ((aI.f k4 BG AP BH AU).bind fun D5=>(if D5 = true then (some ((AO.length : Int) == 0)) else (some true))) else (some false)) else (some false)))) = some r:=by rw [if_pos rfl] at H;exact H
             clear H
             have H:=H1
             clear H1
             by_cases IK : Al < (AP.length : Int)
             ·rw [if_pos IK] at H
              have c94b0 : decide (Al < (AP.length : Int)) = true:=decide_eq_true IK
              clear IK
              by_cases L9 : 0 ≤ Al
              ·rw [if_pos L9] at H
               have c95b0 : decide (0 ≤ Al) = true:=decide_eq_true L9
               clear L9
               by_cases Ma : Al < (AU.length : Int)
               ·rw [if_pos Ma] at H
                have c96b0 : decide (Al < (AU.length : Int)) = true:=decide_eq_true Ma
                clear Ma
                by_cases Iz : ((aK AP Al).f0).toList = ((aK AU Al).f0).toList
                ·rw [if_pos Iz] at H
                 have c97b0 : (((aK AP Al).f0).toList == ((aK AU Al).f0).toList) = true:=beq_iff_eq.mpr Iz
                 have c97b1 : (((aK AP Al).f0).toList != ((aK AU Al).f0).toList) = false:=bne_eq_false_iff_eq.mpr Iz
                 clear Iz
                 replace H:=Option.bind_eq_some_iff.mp H
                 obtain ⟨Fg,JC,H⟩:=H
                 replace H : (ak.l1 k4 AO Fg (wrap64 (Al + 1)) BG AP BH AU) = some r:=H
                 have PY:=Aside0.mk JC
                 clear JC
                 have H':=Aside0.mk H
                 clear H
                 have O7:=BI.out
                 have O8:=Bn.out
                 have Mv:=BJ.out
                 have Mw:=Bo.out
                 have Mx:=Bq.out
                 have MB:=Bp.out
                 have JD : wr.cell? ⟨AV,0,none⟩ = some (.int .u64 BG):=(ah Aw.out 0).trans rfl
                 have JE : wr.cell? ⟨AV,1,none⟩ = some (.slice Ck AP.length BZ):=(ah Aw.out 1).trans rfl
                 have JF:=au Aw.out 0
                 have JG:=au Aw.out 1
                 try go_wp2
                 have Bv:=Aside0.mk (Kd.d9 Bh.out)
                 have Bw:=Aside0.mk (Kd.bA Ap.out)
                 have Bz:=Aside0.mk (Kd.bA Aq.out)
                 have BP:=Aside0.mk (aG Am.out)
                 have BS:=Aside0.mk (aG Ao.out)
                 have Ch:=Aside0.mk (aG Aw.out)
                 have CG:=Aside0.mk (aG AL.out)
                 have CS:=Aside0.mk (aZ HB.out)
                 clear Bh
                 clear Ap
                 clear Aq
                 clear Am
                 clear Ao
                 clear Aw
                 clear AL
                 clear HB
                 have Bh:=Bv
                 have Ap:=Bw
                 have Aq:=Bz
                 have Am:=BP
                 have Ao:=BS
                 have Aw:=Ch
                 have AL:=CG
                 have HB:=CS
                 clear Bv Bw Bz BP BS Ch CG CS
                 have EY : 0 ≤ (Al : Int):=of_decide_eq_true (by first|(with_reducible assumption)|assumption)
                 have EZ : Al < (AP.length : Int):=of_decide_eq_true (by first|(with_reducible assumption)|assumption)
                 obtain ⟨AY,DR,DT,e312,CY,CZ,C8,C9,Da,Db,Ci,Dc,Df⟩:=iM (Kd.bL Ap.out).2.2 Al EY EZ
                 cases e312
                 obtain ⟨JH,Fh,Fj,DU⟩:=Kd.iL Ap.out z71 Al EY (by first|exact EZ|exact of_decide_eq_true (by first|(with_reducible assumption)|assumption)|(have e_:=(Kd.bL Ap.out).1;omega))
                 obtain ⟨GR,GU,rfl,Cr,Ct⟩:=jB Fj
                 have Ca:=DU 6 _ rfl
                 rw [bM _ _ 6 (by omega)] at Ca
                 replace Ca:=Option.some.inj (Ca.symm.trans Ci)
                 injection Ca with hva_ hvn_ hvc_
                 rw [hva_] at Ct
                 rw [hvc_] at Cr
                 have CV:=Aside0.mk (show Kd.V k78 78 _ w.heap.size _ _ ((aK AP Al).f1.f5) from Kd.gU Cr Ct)
                 clear hva_ hvn_ hvc_ Ct Cr
                 clear DU Fh
                 have Cu:=Aside0.mk Df
                 have GV:=Aside0.mk Dc
                 clear Df Dc
                 replace EY:=eq_true EY
                 replace EZ:=eq_true EZ
                 have E5 : 0 ≤ (Al : Int):=of_decide_eq_true (by first|(with_reducible assumption)|assumption)
                 have E8 : Al < (AU.length : Int):=of_decide_eq_true (by first|(with_reducible assumption)|assumption)
                 obtain ⟨AZ,DV,DW,e313,Dh,Di,Dj,Dk,Dl,Dm,Cj,Dn,Dp⟩:=iM (Kd.bL Aq.out).2.2 Al E5 E8
                 cases e313
                 obtain ⟨JI,Fp,Fq,DX⟩:=Kd.iL Aq.out z71 Al E5 (by first|exact E8|exact of_decide_eq_true (by first|(with_reducible assumption)|assumption)|(have e_:=(Kd.bL Aq.out).1;omega))
                 obtain ⟨GX,GY,rfl,Cv,Cw⟩:=jB Fq
                 have Cb:=DX 6 _ rfl
                 rw [bM _ _ 6 (by omega)] at Cb
                 replace Cb:=Option.some.inj (Cb.symm.trans Cj)
                 injection Cb with hva_ hvn_ hvc_
                 rw [hva_] at Cw
                 rw [hvc_] at Cv
                 have CW:=Aside0.mk (show Kd.V k78 78 _ w.heap.size _ _ ((aK AU Al).f1.f5) from Kd.gU Cv Cw)
                 clear hva_ hvn_ hvc_ Cw Cv
                 clear DX Fp
                 have Cz:=Aside0.mk Dp
                 have GZ:=Aside0.mk Dn
                 clear Dp Dn
                 replace E5:=eq_true E5
                 replace E8:=eq_true E8
                 have G6 : 0 ≤ (Al : Int):=of_decide_eq_true (by first|(with_reducible assumption)|assumption)
                 have G7 : Al < (AP.length : Int):=of_decide_eq_true (by first|(with_reducible assumption)|assumption)
                 obtain ⟨JJ,MC,ME,e314,FW,FX,FY,FZ,F3,F4,Dy,F5,F6⟩:=iM (Kd.bL Ap.out).2.2 Al G6 G7
                 obtain rfl : AY = JJ:=(by injection e314)
                 obtain ⟨O9,IB,IC,Gw⟩:=Kd.iL Ap.out z71 Al G6 (by first|exact G7|exact of_decide_eq_true (by first|(with_reducible assumption)|assumption)|(have e_:=(Kd.bL Ap.out).1;omega))
                 obtain ⟨Md,Me,rfl,E9,Fa⟩:=jB IC
                 have Dz:=Gw 6 _ rfl
                 rw [bM _ _ 6 (by omega)] at Dz
                 replace Dz:=Option.some.inj (Dz.symm.trans Dy)
                 injection Dz with hva_ hvn_ hvc_
                 rw [hva_] at Fa
                 rw [hvc_] at E9
                 have DC:=Aside0.mk (show Kd.V k78 78 _ w.heap.size _ _ ((aK AP Al).f1.f5) from Kd.gU E9 Fa)
                 clear hva_ hvn_ hvc_ Fa E9
                 clear Gw IB
                 have CB:=Aside0.mk F6
                 have G8:=Aside0.mk F5
                 clear F6 F5
                 replace G6:=eq_true G6
                 replace G7:=eq_true G7
                 have ea_:=Option.some.inj (Ci.symm.trans Dy)
                 injection ea_ with ea_ en_ ec_
                 subst ea_
                 subst ec_
                 clear en_
                 have G9 : 0 ≤ (Al : Int):=of_decide_eq_true (by first|(with_reducible assumption)|assumption)
                 have He : Al < (AU.length : Int):=of_decide_eq_true (by first|(with_reducible assumption)|assumption)
                 obtain ⟨JK,MF,MG,e315,F7,F8,F9,Ga,Gb,Gc,DF,Gd,Gf⟩:=iM (Kd.bL Aq.out).2.2 Al G9 He
                 obtain rfl : AZ = JK:=(by injection e315)
                 obtain ⟨Pf,IE,IG,Gx⟩:=Kd.iL Aq.out z71 Al G9 (by first|exact He|exact of_decide_eq_true (by first|(with_reducible assumption)|assumption)|(have e_:=(Kd.bL Aq.out).1;omega))
                 obtain ⟨Mf,Mg,rfl,Fb,Fe⟩:=jB IG
                 have DI:=Gx 6 _ rfl
                 rw [bM _ _ 6 (by omega)] at DI
                 replace DI:=Option.some.inj (DI.symm.trans DF)
                 injection DI with hva_ hvn_ hvc_
                 rw [hva_] at Fe
                 rw [hvc_] at Fb
                 have DJ:=Aside0.mk (show Kd.V k78 78 _ w.heap.size _ _ ((aK AU Al).f1.f5) from Kd.gU Fb Fe)
                 clear hva_ hvn_ hvc_ Fe Fb
                 clear Gx IE
                 have CF:=Aside0.mk Gf
                 have Hf:=Aside0.mk Gd
                 clear Gf Gd
                 replace G9:=eq_true G9
                 replace He:=eq_true He
                 have ea_:=Option.some.inj (Cj.symm.trans DF)
                 injection ea_ with ea_ en_ ec_
                 subst ea_
                 subst ec_
                 clear en_
                 refine fu (n:=29) (S:=fun w'=>w'.cell? ⟨AV,0,none⟩ = some (.int .u64 BG) ∧ w'.cell? ⟨AV,1,none⟩ = some (.slice (some AY) AP.length BZ) ∧ w'.cell? ⟨AX,0,none⟩ = some (.int .u64 BH) ∧ w'.cell? ⟨AX,1,none⟩ = some (.slice (some AZ) AU.length Co) ∧ w'.cell? (AY.add ((Al).toNat * 7)) = some (.string ((aK AP Al).f0)) ∧ w'.cell? ⟨(AY.add ((Al).toNat * 7)).block,(AY.add ((Al).toNat * 7)).off + 1,none⟩ = some (.string ((aK AP Al).f1.f0)) ∧ w'.cell? ⟨(AY.add ((Al).toNat * 7)).block,(AY.add ((Al).toNat * 7)).off + 2,none⟩ = some (.string ((aK AP Al).f1.f1)) ∧ w'.cell? ⟨(AY.add ((Al).toNat * 7)).block,(AY.add ((Al).toNat * 7)).off + 3,none⟩ = some (.int .i64 ((aK AP Al).f1.f2)) ∧ w'.cell? ⟨(AY.add ((Al).toNat * 7)).block,(AY.add ((Al).toNat * 7)).off + 4,none⟩ = some (.int .i64 ((aK AP Al).f1.f3)) ∧ w'.cell? ⟨(AY.add ((Al).toNat * 7)).block,(AY.add ((Al).toNat * 7)).off + 5,none⟩ = some (.bool ((aK AP Al).f1.f4)) ∧ w'.cell? ⟨(AY.add ((Al).toNat * 7)).block,(AY.add ((Al).toNat * 7)).off + 6,none⟩ = some (.slice DR ((aK AP Al).f1.f5).length DT) ∧ w'.cell? (AZ.add ((Al).toNat * 7)) = some (.string ((aK AU Al).f0)) ∧ w'.cell? ⟨(AZ.add ((Al).toNat * 7)).block,(AZ.add ((Al).toNat * 7)).off + 1,none⟩ = some (.string ((aK AU Al).f1.f0)) ∧ w'.cell? ⟨(AZ.add ((Al).toNat * 7)).block,(AZ.add ((Al).toNat * 7)).off + 2,none⟩ = some (.string ((aK AU Al).f1.f1)) ∧ w'.cell? ⟨(AZ.add ((Al).toNat * 7)).block,(AZ.add ((Al).toNat * 7)).off + 3,none⟩ = some (.int .i64 ((aK AU Al).f1.f2)) ∧ w'.cell? ⟨(AZ.add ((Al).toNat * 7)).block,(AZ.add ((Al).toNat * 7)).off + 4,none⟩ = some (.int .i64 ((aK AU Al).f1.f3)) ∧ w'.cell? ⟨(AZ.add ((Al).toNat * 7)).block,(AZ.add ((Al).toNat * 7)).off + 5,none⟩ = some (.bool ((aK AU Al).f1.f4)) ∧ w'.cell? ⟨(AZ.add ((Al).toNat * 7)).block,(AZ.add ((Al).toNat * 7)).off + 6,none⟩ = some (.slice DV ((aK AU Al).f1.f5).length DW) ∧ w'.cell? (AY.add ((Al).toNat * 7)) = some (.string ((aK AP Al).f0)) ∧ w'.cell? ⟨(AY.add ((Al).toNat * 7)).block,(AY.add ((Al).toNat * 7)).off + 1,none⟩ = some (.string ((aK AP Al).f1.f0)) ∧ w'.cell? ⟨(AY.add ((Al).toNat * 7)).block,(AY.add ((Al).toNat * 7)).off + 2,none⟩ = some (.string ((aK AP Al).f1.f1)) ∧ w'.cell? ⟨(AY.add ((Al).toNat * 7)).block,(AY.add ((Al).toNat * 7)).off + 3,none⟩ = some (.int .i64 ((aK AP Al).f1.f2)) ∧ w'.cell? ⟨(AY.add ((Al).toNat * 7)).block,(AY.add ((Al).toNat * 7)).off + 4,none⟩ = some (.int .i64 ((aK AP Al).f1.f3)) ∧ w'.cell? ⟨(AY.add ((Al).toNat * 7)).block,(AY.add ((Al).toNat * 7)).off + 5,none⟩ = some (.bool ((aK AP Al).f1.f4)) ∧ w'.cell? ⟨(AY.add ((Al).toNat * 7)).block,(AY.add ((Al).toNat * 7)).off + 6,none⟩ = some (.slice DR ((aK AP Al).f1.f5).length DT) ∧ w'.cell? (AZ.add ((Al).toNat * 7)) = some (.string ((aK AU Al).f0)) ∧ w'.cell? ⟨(AZ.add ((Al).toNat * 7)).block,(AZ.add ((Al).toNat * 7)).off + 1,none⟩ = some (.string ((aK AU Al).f1.f0)) ∧ w'.cell? ⟨(AZ.add ((Al).toNat * 7)).block,(AZ.add ((Al).toNat * 7)).off + 2,none⟩ = some (.string ((aK AU Al).f1.f1)) ∧ w'.cell? ⟨(AZ.add ((Al).toNat * 7)).block,(AZ.add ((Al).toNat * 7)).off + 3,none⟩ = some (.int .i64 ((aK AU Al).f1.f2)) ∧ w'.cell? ⟨(AZ.add ((Al).toNat * 7)).block,(AZ.add ((Al).toNat * 7)).off + 4,none⟩ = some (.int .i64 ((aK AU Al).f1.f3)) ∧ w'.cell? ⟨(AZ.add ((Al).toNat * 7)).block,(AZ.add ((Al).toNat * 7)).off + 5,none⟩ = some (.bool ((aK AU Al).f1.f4)) ∧ w'.cell? ⟨(AZ.add ((Al).toNat * 7)).block,(AZ.add ((Al).toNat * 7)).off + 6,none⟩ = some (.slice DV ((aK AU Al).f1.f5).length DW)) (ds:=[]) #[O,O,O,O,O,O,O,O,O,O,O,O,O,O,O,O,O,O,O,O,O,O,O,O,O,O,O,O,O] (by kernel_rfl) rfl rfl ⟨(ah Aw.out 0).trans rfl,(ah Aw.out 1).trans rfl,(ah AL.out 0).trans rfl,(ah AL.out 1).trans rfl,CY,CZ,C8,C9,Da,Db,Ci,Dh,Di,Dj,Dk,Dl,Dm,Cj,FW,FX,FY,FZ,F3,F4,Dy,F7,F8,F9,Ga,Gb,Gc,DF⟩ (fun hHeld=>?_);refine dR ak.xQ ak.wh (fun HT_ HW_=>?_)
                 generalize wr.drew = PZ at Bh Ap Aq Am Ao Aw AL HB CV CW DC DJ Cu Cz CB CF CY CZ C8 C9 Da Db Ci Dh Di Dj Dk Dl Dm Cj FW FX FY FZ F3 F4 Dy F7 F8 F9 Ga Gb Gc DF hHeld ⊢
                 refine pu_ 0 101 #[I,O,O,O,O,O,O,O,O,O,O,O,O,O,O,O,O,O,O,O,O,O,O,O,O,O,O,O,O] HT_.out ?_
                 refine pu_ 2 103 #[I,O,I,O,O,O,O,O,O,O,O,O,O,O,O,O,O,O,O,O,O,O,O,O,O,O,O,O,O] HT_.out ?_
                 refine pu_ 6 107 #[I,O,I,O,O,O,I,O,O,O,O,O,O,O,O,O,O,O,O,O,O,O,O,O,O,O,O,O,O] HT_.out ?_
                 refine pu_ 8 109 #[I,O,I,O,O,O,I,O,I,O,O,O,O,O,O,O,O,O,O,O,O,O,O,O,O,O,O,O,O] HT_.out ?_
                 refine ta_ 1 102 #[I,I,I,O,O,O,I,O,I,O,O,O,O,O,O,O,O,O,O,O,O,O,O,O,O,O,O,O,O] HT_.out HW_.out hHeld ?_
                 refine pu_ 3 104 #[I,I,I,I,O,O,I,O,I,O,O,O,O,O,O,O,O,O,O,O,O,O,O,O,O,O,O,O,O] HT_.out ?_
                 refine pu_ 4 105 #[I,I,I,I,I,O,I,O,I,O,O,O,O,O,O,O,O,O,O,O,O,O,O,O,O,O,O,O,O] HT_.out ?_
                 refine ta_ 5 106 #[I,I,I,I,I,I,I,O,I,O,O,O,O,O,O,O,O,O,O,O,O,O,O,O,O,O,O,O,O] HT_.out HW_.out hHeld ?_
                 refine ta_ 7 108 #[I,I,I,I,I,I,I,I,I,O,O,O,O,O,O,O,O,O,O,O,O,O,O,O,O,O,O,O,O] HT_.out HW_.out hHeld ?_
                 refine pu_ 9 110 #[I,I,I,I,I,I,I,I,I,I,O,O,O,O,O,O,O,O,O,O,O,O,O,O,O,O,O,O,O] HT_.out ?_
                 refine pu_ 10 111 #[I,I,I,I,I,I,I,I,I,I,I,O,O,O,O,O,O,O,O,O,O,O,O,O,O,O,O,O,O] HT_.out ?_
                 refine ta_ 11 112 #[I,I,I,I,I,I,I,I,I,I,I,I,O,O,O,O,O,O,O,O,O,O,O,O,O,O,O,O,O] HT_.out HW_.out hHeld ?_
                 refine pu_ 12 113 #[I,I,I,I,I,I,I,I,I,I,I,I,I,O,O,O,O,O,O,O,O,O,O,O,O,O,O,O,O] HT_.out ?_
                 refine pu_ 13 114 #[I,I,I,I,I,I,I,I,I,I,I,I,I,I,O,O,O,O,O,O,O,O,O,O,O,O,O,O,O] HT_.out ?_
                 refine pu_ 14 115 #[I,I,I,I,I,I,I,I,I,I,I,I,I,I,I,O,O,O,O,O,O,O,O,O,O,O,O,O,O] HT_.out ?_
                 refine pu_ 16 117 #[I,I,I,I,I,I,I,I,I,I,I,I,I,I,I,O,I,O,O,O,O,O,O,O,O,O,O,O,O] HT_.out ?_
                 refine pu_ 20 121 #[I,I,I,I,I,I,I,I,I,I,I,I,I,I,I,O,I,O,O,O,I,O,O,O,O,O,O,O,O] HT_.out ?_
                 refine pu_ 22 123 #[I,I,I,I,I,I,I,I,I,I,I,I,I,I,I,O,I,O,O,O,I,O,I,O,O,O,O,O,O] HT_.out ?_
                 refine ta_ 15 116 #[I,I,I,I,I,I,I,I,I,I,I,I,I,I,I,I,I,O,O,O,I,O,I,O,O,O,O,O,O] HT_.out HW_.out hHeld ?_
                 refine pu_ 17 118 #[I,I,I,I,I,I,I,I,I,I,I,I,I,I,I,I,I,I,O,O,I,O,I,O,O,O,O,O,O] HT_.out ?_
                 refine pu_ 18 119 #[I,I,I,I,I,I,I,I,I,I,I,I,I,I,I,I,I,I,I,O,I,O,I,O,O,O,O,O,O] HT_.out ?_
                 refine ta_ 19 120 #[I,I,I,I,I,I,I,I,I,I,I,I,I,I,I,I,I,I,I,I,I,O,I,O,O,O,O,O,O] HT_.out HW_.out hHeld ?_
                 refine ta_ 21 122 #[I,I,I,I,I,I,I,I,I,I,I,I,I,I,I,I,I,I,I,I,I,I,I,O,O,O,O,O,O] HT_.out HW_.out hHeld ?_
                 refine pu_ 23 124 #[I,I,I,I,I,I,I,I,I,I,I,I,I,I,I,I,I,I,I,I,I,I,I,I,O,O,O,O,O] HT_.out ?_
                 refine pu_ 24 125 #[I,I,I,I,I,I,I,I,I,I,I,I,I,I,I,I,I,I,I,I,I,I,I,I,I,O,O,O,O] HT_.out ?_
                 refine ta_ 25 126 #[I,I,I,I,I,I,I,I,I,I,I,I,I,I,I,I,I,I,I,I,I,I,I,I,I,I,O,O,O] HT_.out HW_.out hHeld ?_
                 refine gG (i:=26) (N:=some 127) #[I,I,I,I,I,I,I,I,I,I,I,I,I,I,I,I,I,I,I,I,I,I,I,I,I,I,I,O,O] rfl rfl (dw HT_.out (by kernel_rfl)) (by decide) (fun K hK=>?_)
                 refine eZ Tryd.func12 (by kernel_rfl) rfl #[.agg #[.string ((aK AP Al).f1.f0),.string ((aK AP Al).f1.f1),.int .i64 ((aK AP Al).f1.f2),.int .i64 ((aK AP Al).f1.f3),.bool ((aK AP Al).f1.f4),.slice DR ((aK AP Al).f1.f5).length DT],.agg #[.string ((aK AU Al).f1.f0),.string ((aK AU Al).f1.f1),.int .i64 ((aK AU Al).f1.f2),.int .i64 ((aK AU Al).f1.f3),.bool ((aK AU Al).f1.f4),.slice DV ((aK AU Al).f1.f5).length DW]] (by rfl) rfl rfl (by (try simp only [List.map_toArray,List.map_cons,List.map_nil]);first|done|rfl|(simp only [List.length_drop,List.length_take];rfl)) ?_
                 with_reducible refine (bB.calls k4 ((aK AP Al).f1.f0) ((aK AP Al).f1.f1) ((aK AP Al).f1.f2) ((aK AP Al).f1.f3) ((aK AP Al).f1.f4) _ _ ((aK AP Al).f1.f5) ((aK AU Al).f1.f0) ((aK AU Al).f1.f1) ((aK AU Al).f1.f2) ((aK AU Al).f1.f3) ((aK AU Al).f1.f4) _ _ ((aK AU Al).f1.f5) Fg _ ?Bj ?Bl ?Dq ?Dr PY.out).mono ?_
                 (case Bj=>repeat (first|exact (by repeat (first|(with_reducible exact CB.out)|(with_reducible refine Kd.bC ?_ _)|(with_reducible refine Kd.bO ?_ _)|(with_reducible refine Kd.bW ?_)|exact CB.out))|(with_reducible refine Kd.bC ?_ _)|(with_reducible refine Kd.bO ?_ _)|(with_reducible refine Kd.bW ?_)))
                 (case Bl=>exact G8.out)
                 (case Dq=>repeat (first|exact (by repeat (first|(with_reducible exact CF.out)|(with_reducible refine Kd.bC ?_ _)|(with_reducible refine Kd.bO ?_ _)|(with_reducible refine Kd.bW ?_)|exact CF.out))|(with_reducible refine Kd.bC ?_ _)|(with_reducible refine Kd.bO ?_ _)|(with_reducible refine Kd.bW ?_)))
                 (case Dr=>exact Hf.out)
                 rintro e P7 ⟨rfl,hb⟩
                 have MH:=(hb.cell (World.block_lt_of_cell? _ _ (hHeld.2.2.2.2.1))).trans (hHeld.2.2.2.2.1)
                 have MI:=(hb.cell (World.block_lt_of_cell? _ _ (hHeld.2.2.2.2.2.1))).trans (hHeld.2.2.2.2.2.1)
                 have MJ:=(hb.cell (World.block_lt_of_cell? _ _ (hHeld.2.2.2.2.2.2.1))).trans (hHeld.2.2.2.2.2.2.1)
                 have MK:=(hb.cell (World.block_lt_of_cell? _ _ (hHeld.2.2.2.2.2.2.2.1))).trans (hHeld.2.2.2.2.2.2.2.1)
                 have ML:=(hb.cell (World.block_lt_of_cell? _ _ (hHeld.2.2.2.2.2.2.2.2.1))).trans (hHeld.2.2.2.2.2.2.2.2.1)
                 have MN:=(hb.cell (World.block_lt_of_cell? _ _ (hHeld.2.2.2.2.2.2.2.2.2.1))).trans (hHeld.2.2.2.2.2.2.2.2.2.1)
                 have JL:=(hb.cell (World.block_lt_of_cell? _ _ (hHeld.2.2.2.2.2.2.2.2.2.2.1))).trans (hHeld.2.2.2.2.2.2.2.2.2.2.1)
                 have JM:=(hb.cell (World.block_lt_of_cell? _ _ (hHeld.2.2.2.2.2.2.2.2.2.2.2.1))).trans (hHeld.2.2.2.2.2.2.2.2.2.2.2.1)
                 have JN:=(hb.cell (World.block_lt_of_cell? _ _ (hHeld.2.2.2.2.2.2.2.2.2.2.2.2.1))).trans (hHeld.2.2.2.2.2.2.2.2.2.2.2.2.1)
                 have JO:=(hb.cell (World.block_lt_of_cell? _ _ (hHeld.2.2.2.2.2.2.2.2.2.2.2.2.2.1))).trans (hHeld.2.2.2.2.2.2.2.2.2.2.2.2.2.1)
                 have JQ:=(hb.cell (World.block_lt_of_cell? _ _ (hHeld.2.2.2.2.2.2.2.2.2.2.2.2.2.2.1))).trans (hHeld.2.2.2.2.2.2.2.2.2.2.2.2.2.2.1)
                 have JR:=(hb.cell (World.block_lt_of_cell? _ _ (hHeld.2.2.2.2.2.2.2.2.2.2.2.2.2.2.2.1))).trans (hHeld.2.2.2.2.2.2.2.2.2.2.2.2.2.2.2.1)
                 have JU:=(hb.cell (World.block_lt_of_cell? _ _ (hHeld.2.2.2.2.2.2.2.2.2.2.2.2.2.2.2.2.1))).trans (hHeld.2.2.2.2.2.2.2.2.2.2.2.2.2.2.2.2.1)
                 have JV:=(hb.cell (World.block_lt_of_cell? _ _ (hHeld.2.2.2.2.2.2.2.2.2.2.2.2.2.2.2.2.2.1))).trans (hHeld.2.2.2.2.2.2.2.2.2.2.2.2.2.2.2.2.2.1)
                 have JW:=(hb.cell (World.block_lt_of_cell? _ _ (hHeld.2.2.2.2.2.2.2.2.2.2.2.2.2.2.2.2.2.2.1))).trans (hHeld.2.2.2.2.2.2.2.2.2.2.2.2.2.2.2.2.2.2.1)
                 have JX:=(hb.cell (World.block_lt_of_cell? _ _ (hHeld.2.2.2.2.2.2.2.2.2.2.2.2.2.2.2.2.2.2.2.1))).trans (hHeld.2.2.2.2.2.2.2.2.2.2.2.2.2.2.2.2.2.2.2.1)
                 have JY:=(hb.cell (World.block_lt_of_cell? _ _ (hHeld.2.2.2.2.2.2.2.2.2.2.2.2.2.2.2.2.2.2.2.2.1))).trans (hHeld.2.2.2.2.2.2.2.2.2.2.2.2.2.2.2.2.2.2.2.2.1)
                 have JZ:=(hb.cell (World.block_lt_of_cell? _ _ (hHeld.2.2.2.2.2.2.2.2.2.2.2.2.2.2.2.2.2.2.2.2.2.1))).trans (hHeld.2.2.2.2.2.2.2.2.2.2.2.2.2.2.2.2.2.2.2.2.2.1)
                 have J2:=(hb.cell (World.block_lt_of_cell? _ _ (hHeld.2.2.2.2.2.2.2.2.2.2.2.2.2.2.2.2.2.2.2.2.2.2.1))).trans (hHeld.2.2.2.2.2.2.2.2.2.2.2.2.2.2.2.2.2.2.2.2.2.2.1)
                 have J3:=(hb.cell (World.block_lt_of_cell? _ _ (hHeld.2.2.2.2.2.2.2.2.2.2.2.2.2.2.2.2.2.2.2.2.2.2.2.1))).trans (hHeld.2.2.2.2.2.2.2.2.2.2.2.2.2.2.2.2.2.2.2.2.2.2.2.1)
                 have J4:=(hb.cell (World.block_lt_of_cell? _ _ (hHeld.2.2.2.2.2.2.2.2.2.2.2.2.2.2.2.2.2.2.2.2.2.2.2.2.1))).trans (hHeld.2.2.2.2.2.2.2.2.2.2.2.2.2.2.2.2.2.2.2.2.2.2.2.2.1)
                 have J5:=(hb.cell (World.block_lt_of_cell? _ _ (hHeld.2.2.2.2.2.2.2.2.2.2.2.2.2.2.2.2.2.2.2.2.2.2.2.2.2.1))).trans (hHeld.2.2.2.2.2.2.2.2.2.2.2.2.2.2.2.2.2.2.2.2.2.2.2.2.2.1)
                 have J6:=(hb.cell (World.block_lt_of_cell? _ _ (hHeld.2.2.2.2.2.2.2.2.2.2.2.2.2.2.2.2.2.2.2.2.2.2.2.2.2.2.1))).trans (hHeld.2.2.2.2.2.2.2.2.2.2.2.2.2.2.2.2.2.2.2.2.2.2.2.2.2.2.1)
                 have J7:=(hb.cell (World.block_lt_of_cell? _ _ (hHeld.2.2.2.2.2.2.2.2.2.2.2.2.2.2.2.2.2.2.2.2.2.2.2.2.2.2.2.1))).trans (hHeld.2.2.2.2.2.2.2.2.2.2.2.2.2.2.2.2.2.2.2.2.2.2.2.2.2.2.2.1)
                 have J8:=(hb.cell (World.block_lt_of_cell? _ _ (hHeld.2.2.2.2.2.2.2.2.2.2.2.2.2.2.2.2.2.2.2.2.2.2.2.2.2.2.2.2.1))).trans (hHeld.2.2.2.2.2.2.2.2.2.2.2.2.2.2.2.2.2.2.2.2.2.2.2.2.2.2.2.2.1)
                 have J9:=(hb.cell (World.block_lt_of_cell? _ _ (hHeld.2.2.2.2.2.2.2.2.2.2.2.2.2.2.2.2.2.2.2.2.2.2.2.2.2.2.2.2.2.1))).trans (hHeld.2.2.2.2.2.2.2.2.2.2.2.2.2.2.2.2.2.2.2.2.2.2.2.2.2.2.2.2.2.1)
                 have Ka:=(hb.cell (World.block_lt_of_cell? _ _ (hHeld.2.2.2.2.2.2.2.2.2.2.2.2.2.2.2.2.2.2.2.2.2.2.2.2.2.2.2.2.2.2.1))).trans (hHeld.2.2.2.2.2.2.2.2.2.2.2.2.2.2.2.2.2.2.2.2.2.2.2.2.2.2.2.2.2.2.1)
                 have Ke:=(hb.cell (World.block_lt_of_cell? _ _ (hHeld.2.2.2.2.2.2.2.2.2.2.2.2.2.2.2.2.2.2.2.2.2.2.2.2.2.2.2.2.2.2.2))).trans (hHeld.2.2.2.2.2.2.2.2.2.2.2.2.2.2.2.2.2.2.2.2.2.2.2.2.2.2.2.2.2.2.2)
                 refine ⟨_,rfl,?_⟩
                 have Bv:=Aside0.mk (Kd.fZ (kr_ Bh.out) hb)
                 have Bw:=Aside0.mk (Kd.dx (kv_ Ap.out) hb)
                 have Bz:=Aside0.mk (Kd.dx (kv_ Aq.out) hb)
                 have BP:=Aside0.mk (Kd.dx (kv_ CV.out) hb)
                 have BS:=Aside0.mk (Kd.dx (kv_ CW.out) hb)
                 have Ch:=Aside0.mk (Kd.dx (kv_ DC.out) hb)
                 have CG:=Aside0.mk (Kd.dx (kv_ DJ.out) hb)
                 have CS:=Aside0.mk (aM (g:=AA) (o:=.cells #[.int .u64 Ay,.slice Bf Au.length Bg] 59 (0,0)) (bk_ Am.out) hb)
                 have Jq:=Aside0.mk (aM (g:=AQ) (o:=.cells #[.int .u64 AJ,.slice BD AB.length BF] 59 (0,0)) (bk_ Ao.out) hb)
                 have Jr:=Aside0.mk (aM (g:=AV) (o:=.cells #[.int .u64 BG,.slice (some AY) AP.length BZ] 68 (0,0)) (bk_ Aw.out) hb)
                 have Gq:=Aside0.mk (aM (g:=AX) (o:=.cells #[.int .u64 BH,.slice (some AZ) AU.length Co] 68 (0,0)) (bk_ AL.out) hb)
                 have Gr:=Aside0.mk (Kd.bN (by repeat (first|(with_reducible exact Cu.out)|(with_reducible refine Kd.bC ?_ _)|(with_reducible refine Kd.bO ?_ _)|(with_reducible refine Kd.bW ?_)|exact Cu.out)) hb)
                 have Gs:=Aside0.mk (Kd.bN (by repeat (first|(with_reducible exact Cz.out)|(with_reducible refine Kd.bC ?_ _)|(with_reducible refine Kd.bO ?_ _)|(with_reducible refine Kd.bW ?_)|exact Cz.out)) hb)
                 have Gt:=Aside0.mk (Kd.bN (by repeat (first|(with_reducible exact CB.out)|(with_reducible refine Kd.bC ?_ _)|(with_reducible refine Kd.bO ?_ _)|(with_reducible refine Kd.bW ?_)|exact CB.out)) hb)
                 have Gu:=Aside0.mk (Kd.bN (by repeat (first|(with_reducible exact CF.out)|(with_reducible refine Kd.bC ?_ _)|(with_reducible refine Kd.bO ?_ _)|(with_reducible refine Kd.bW ?_)|exact CF.out)) hb)
                 have Gv:=Aside0.mk (aJ hb_ hb)
                 clear Bh
                 clear Ap
                 clear Aq
                 clear CV
                 clear CW
                 clear DC
                 clear DJ
                 clear Am
                 clear Ao
                 clear Aw
                 clear AL
                 clear Cu
                 clear Cz
                 clear CB
                 clear CF
                 clear HB
                 have Bh:=Bv
                 have Ap:=Bw
                 have Aq:=Bz
                 have CV:=BP
                 have CW:=BS
                 have DC:=Ch
                 have DJ:=CG
                 have Am:=CS
                 have Ao:=Jq
                 have Aw:=Jr
                 have AL:=Gq
                 have Cu:=Gr
                 have Cz:=Gs
                 have CB:=Gt
                 have CF:=Gu
                 have HB:=Gv
                 clear Bv Bw Bz BP BS Ch CG CS Jq Jr Gq Gr Gs Gt Gu Gv
                 (try clear hb)
                 (try clear hb2)
                 (try clear hk)
                 (try clear hi)
                 refine hK.out _ _ ⟨(ah Aw.out 0).trans rfl,(ah Aw.out 1).trans rfl,(ah AL.out 0).trans rfl,(ah AL.out 1).trans rfl,MH,MI,MJ,MK,ML,MN,JL,JM,JN,JO,JQ,JR,JU,JV,JW,JX,JY,JZ,J2,J3,J4,J5,J6,J7,J8,J9,Ka,Ke⟩ (fun hHeld=>?_)
                 clear hK K
                 refine dU (a':=?_) ?_ ?_
                 rotate_left
                 ·show Act.put _ (some 127) _ = _
                  simp only [Act.put,List.setIfInBounds_toArray,List.set_cons_zero,List.set_cons_succ,bH,bI]
                  rfl
                 refine pu_ 27 128 #[I,I,I,I,I,I,I,I,I,I,I,I,I,I,I,I,I,I,I,I,I,I,I,I,I,I,I,I,O] HT_.out ?_
                 refine pu_ 28 10 #[I,I,I,I,I,I,I,I,I,I,I,I,I,I,I,I,I,I,I,I,I,I,I,I,I,I,I,I,I] HT_.out ?_
                 refine gJ (eH HT_.out (by kernel_rfl)) ?_
                 try go_wp2
                 go_roundg k4
                 case measure=>have:=HJ2.out;have:=Gl.out;have:=II.out;have:=L8.out;omega
                 case rel=>exact ⟨(Fg),(wrap64 (Al + 1)),(by first|rfl|(simp;done)|(simp [*];done)),(by first|rfl|(simp;done)|(simp [*];done)),H',⟨by have:=HJ2.out;have:=Gl.out;have:=II.out;have:=L8.out;omega⟩,⟨by (with_reducible repeat (first|apply Kd.fA|apply Kd.fB|apply Kd.d9));exact Bh.out⟩,⟨by (with_reducible repeat (first|apply Kd.bP|apply Kd.bQ|apply Kd.bA));exact Ap.out⟩,⟨by (with_reducible repeat (first|apply Kd.bP|apply Kd.bQ|apply Kd.bA));exact Aq.out⟩,⟨by (with_reducible repeat (first|apply aC|apply aG|apply aH));exact Am.out⟩,⟨by (with_reducible repeat (first|apply aC|apply aG|apply aH));exact Ao.out⟩,⟨by (with_reducible repeat (first|apply aC|apply aG|apply aH));exact Aw.out⟩,⟨by (with_reducible repeat (first|apply aC|apply aG|apply aH));exact AL.out⟩,⟨hb_⟩⟩
                ·rw [if_neg Iz] at H
                 have c97b0 : (((aK AP Al).f0).toList == ((aK AU Al).f0).toList) = false:=beq_eq_false_iff_ne.mpr Iz
                 have c97b1 : (((aK AP Al).f0).toList != ((aK AU Al).f0).toList) = true:=bne_iff_ne.mpr Iz
                 have H':=Aside0.mk H
                 clear H
                 have MO:=BI.out
                 have MP:=Bn.out
                 have MQ:=BJ.out
                 have MR:=Bo.out
                 have MS:=Bq.out
                 have MU:=Bp.out
                 have Kg : wr.cell? ⟨AV,0,none⟩ = some (.int .u64 BG):=(ah Aw.out 0).trans rfl
                 have Kh : wr.cell? ⟨AV,1,none⟩ = some (.slice Ck AP.length BZ):=(ah Aw.out 1).trans rfl
                 have Ki:=au Aw.out 0
                 have Kj:=au Aw.out 1
                 try go_wp2
                 have Bv:=Aside0.mk (Kd.d9 Bh.out)
                 have Bw:=Aside0.mk (Kd.bA Ap.out)
                 have Bz:=Aside0.mk (Kd.bA Aq.out)
                 have BP:=Aside0.mk (aG Am.out)
                 have BS:=Aside0.mk (aG Ao.out)
                 have Ch:=Aside0.mk (aG Aw.out)
                 have CG:=Aside0.mk (aG AL.out)
                 have CS:=Aside0.mk (aZ HB.out)
                 clear Bh
                 clear Ap
                 clear Aq
                 clear Am
                 clear Ao
                 clear Aw
                 clear AL
                 clear HB
                 have Bh:=Bv
                 have Ap:=Bw
                 have Aq:=Bz
                 have Am:=BP
                 have Ao:=BS
                 have Aw:=Ch
                 have AL:=CG
                 have HB:=CS
                 clear Bv Bw Bz BP BS Ch CG CS
                 have EY : 0 ≤ (Al : Int):=of_decide_eq_true (by first|(with_reducible assumption)|assumption)
                 have EZ : Al < (AP.length : Int):=of_decide_eq_true (by first|(with_reducible assumption)|assumption)
                 obtain ⟨AY,DR,DT,e312,CY,CZ,C8,C9,Da,Db,Ci,Dc,Df⟩:=iM (Kd.bL Ap.out).2.2 Al EY EZ
                 cases e312
                 obtain ⟨JH,Fh,Fj,DU⟩:=Kd.iL Ap.out z71 Al EY (by first|exact EZ|exact of_decide_eq_true (by first|(with_reducible assumption)|assumption)|(have e_:=(Kd.bL Ap.out).1;omega))
                 obtain ⟨GR,GU,rfl,Cr,Ct⟩:=jB Fj
                 have Ca:=DU 6 _ rfl
                 rw [bM _ _ 6 (by omega)] at Ca
                 replace Ca:=Option.some.inj (Ca.symm.trans Ci)
                 injection Ca with hva_ hvn_ hvc_
                 rw [hva_] at Ct
                 rw [hvc_] at Cr
                 have CV:=Aside0.mk (show Kd.V k78 78 _ w.heap.size _ _ ((aK AP Al).f1.f5) from Kd.gU Cr Ct)
                 clear hva_ hvn_ hvc_ Ct Cr
                 clear DU Fh
                 have Cu:=Aside0.mk Df
                 have GV:=Aside0.mk Dc
                 clear Df Dc
                 replace EY:=eq_true EY
                 replace EZ:=eq_true EZ
                 have E5 : 0 ≤ (Al : Int):=of_decide_eq_true (by first|(with_reducible assumption)|assumption)
                 have E8 : Al < (AU.length : Int):=of_decide_eq_true (by first|(with_reducible assumption)|assumption)
                 obtain ⟨AZ,DV,DW,e313,Dh,Di,Dj,Dk,Dl,Dm,Cj,Dn,Dp⟩:=iM (Kd.bL Aq.out).2.2 Al E5 E8
                 cases e313
                 obtain ⟨JI,Fp,Fq,DX⟩:=Kd.iL Aq.out z71 Al E5 (by first|exact E8|exact of_decide_eq_true (by first|(with_reducible assumption)|assumption)|(have e_:=(Kd.bL Aq.out).1;omega))
                 obtain ⟨GX,GY,rfl,Cv,Cw⟩:=jB Fq
                 have Cb:=DX 6 _ rfl
                 rw [bM _ _ 6 (by omega)] at Cb
                 replace Cb:=Option.some.inj (Cb.symm.trans Cj)
                 injection Cb with hva_ hvn_ hvc_
                 rw [hva_] at Cw
                 rw [hvc_] at Cv
                 have CW:=Aside0.mk (show Kd.V k78 78 _ w.heap.size _ _ ((aK AU Al).f1.f5) from Kd.gU Cv Cw)
                 clear hva_ hvn_ hvc_ Cw Cv
                 clear DX Fp
                 have Cz:=Aside0.mk Dp
                 have GZ:=Aside0.mk Dn
                 clear Dp Dn
                 replace E5:=eq_true E5
                 replace E8:=eq_true E8
                 refine fu (n:=29) (S:=fun w'=>w'.cell? ⟨AV,0,none⟩ = some (.int .u64 BG) ∧ w'.cell? ⟨AV,1,none⟩ = some (.slice (some AY) AP.length BZ) ∧ w'.cell? ⟨AX,0,none⟩ = some (.int .u64 BH) ∧ w'.cell? ⟨AX,1,none⟩ = some (.slice (some AZ) AU.length Co) ∧ w'.cell? (AY.add ((Al).toNat * 7)) = some (.string ((aK AP Al).f0)) ∧ w'.cell? ⟨(AY.add ((Al).toNat * 7)).block,(AY.add ((Al).toNat * 7)).off + 1,none⟩ = some (.string ((aK AP Al).f1.f0)) ∧ w'.cell? ⟨(AY.add ((Al).toNat * 7)).block,(AY.add ((Al).toNat * 7)).off + 2,none⟩ = some (.string ((aK AP Al).f1.f1)) ∧ w'.cell? ⟨(AY.add ((Al).toNat * 7)).block,(AY.add ((Al).toNat * 7)).off + 3,none⟩ = some (.int .i64 ((aK AP Al).f1.f2)) ∧ w'.cell? ⟨(AY.add ((Al).toNat * 7)).block,(AY.add ((Al).toNat * 7)).off + 4,none⟩ = some (.int .i64 ((aK AP Al).f1.f3)) ∧ w'.cell? ⟨(AY.add ((Al).toNat * 7)).block,(AY.add ((Al).toNat * 7)).off + 5,none⟩ = some (.bool ((aK AP Al).f1.f4)) ∧ w'.cell? ⟨(AY.add ((Al).toNat * 7)).block,(AY.add ((Al).toNat * 7)).off + 6,none⟩ = some (.slice DR ((aK AP Al).f1.f5).length DT) ∧ w'.cell? (AZ.add ((Al).toNat * 7)) = some (.string ((aK AU Al).f0)) ∧ w'.cell? ⟨(AZ.add ((Al).toNat * 7)).block,(AZ.add ((Al).toNat * 7)).off + 1,none⟩ = some (.string ((aK AU Al).f1.f0)) ∧ w'.cell? ⟨(AZ.add ((Al).toNat * 7)).block,(AZ.add ((Al).toNat * 7)).off + 2,none⟩ = some (.string ((aK AU Al).f1.f1)) ∧ w'.cell? ⟨(AZ.add ((Al).toNat * 7)).block,(AZ.add ((Al).toNat * 7)).off + 3,none⟩ = some (.int .i64 ((aK AU Al).f1.f2)) ∧ w'.cell? ⟨(AZ.add ((Al).toNat * 7)).block,(AZ.add ((Al).toNat * 7)).off + 4,none⟩ = some (.int .i64 ((aK AU Al).f1.f3)) ∧ w'.cell? ⟨(AZ.add ((Al).toNat * 7)).block,(AZ.add ((Al).toNat * 7)).off + 5,none⟩ = some (.bool ((aK AU Al).f1.f4)) ∧ w'.cell? ⟨(AZ.add ((Al).toNat * 7)).block,(AZ.add ((Al).toNat * 7)).off + 6,none⟩ = some (.slice DV ((aK AU Al).f1.f5).length DW)) (ds:=[]) #[O,O,O,O,O,O,O,O,O,O,O,O,O,O,O,O,O,O,O,O,O,O,O,O,O,O,O,O,O] (by kernel_rfl) rfl rfl ⟨(ah Aw.out 0).trans rfl,(ah Aw.out 1).trans rfl,(ah AL.out 0).trans rfl,(ah AL.out 1).trans rfl,CY,CZ,C8,C9,Da,Db,Ci,Dh,Di,Dj,Dk,Dl,Dm,Cj⟩ (fun hHeld=>?_);refine dR ak.xQ ak.wh (fun HT_ HW_=>?_)
                 generalize wr.drew = P8 at Bh Ap Aq Am Ao Aw AL HB CV CW Cu Cz CY CZ C8 C9 Da Db Ci Dh Di Dj Dk Dl Dm Cj hHeld ⊢
                 refine pu_ 0 101 #[I,O,O,O,O,O,O,O,O,O,O,O,O,O,O,O,O,O,O,O,O,O,O,O,O,O,O,O,O] HT_.out ?_
                 refine pu_ 2 103 #[I,O,I,O,O,O,O,O,O,O,O,O,O,O,O,O,O,O,O,O,O,O,O,O,O,O,O,O,O] HT_.out ?_
                 refine pu_ 6 107 #[I,O,I,O,O,O,I,O,O,O,O,O,O,O,O,O,O,O,O,O,O,O,O,O,O,O,O,O,O] HT_.out ?_
                 refine pu_ 8 109 #[I,O,I,O,O,O,I,O,I,O,O,O,O,O,O,O,O,O,O,O,O,O,O,O,O,O,O,O,O] HT_.out ?_
                 refine ta_ 1 102 #[I,I,I,O,O,O,I,O,I,O,O,O,O,O,O,O,O,O,O,O,O,O,O,O,O,O,O,O,O] HT_.out HW_.out hHeld ?_
                 refine pu_ 3 104 #[I,I,I,I,O,O,I,O,I,O,O,O,O,O,O,O,O,O,O,O,O,O,O,O,O,O,O,O,O] HT_.out ?_
                 refine pu_ 4 105 #[I,I,I,I,I,O,I,O,I,O,O,O,O,O,O,O,O,O,O,O,O,O,O,O,O,O,O,O,O] HT_.out ?_
                 refine ta_ 5 106 #[I,I,I,I,I,I,I,O,I,O,O,O,O,O,O,O,O,O,O,O,O,O,O,O,O,O,O,O,O] HT_.out HW_.out hHeld ?_
                 refine ta_ 7 108 #[I,I,I,I,I,I,I,I,I,O,O,O,O,O,O,O,O,O,O,O,O,O,O,O,O,O,O,O,O] HT_.out HW_.out hHeld ?_
                 refine pu_ 9 110 #[I,I,I,I,I,I,I,I,I,I,O,O,O,O,O,O,O,O,O,O,O,O,O,O,O,O,O,O,O] HT_.out ?_
                 refine pu_ 10 111 #[I,I,I,I,I,I,I,I,I,I,I,O,O,O,O,O,O,O,O,O,O,O,O,O,O,O,O,O,O] HT_.out ?_
                 refine ta_ 11 112 #[I,I,I,I,I,I,I,I,I,I,I,I,O,O,O,O,O,O,O,O,O,O,O,O,O,O,O,O,O] HT_.out HW_.out hHeld ?_
                 refine pu_ 12 113 #[I,I,I,I,I,I,I,I,I,I,I,I,I,O,O,O,O,O,O,O,O,O,O,O,O,O,O,O,O] HT_.out ?_
                 refine pu_ 13 114 #[I,I,I,I,I,I,I,I,I,I,I,I,I,I,O,O,O,O,O,O,O,O,O,O,O,O,O,O,O] HT_.out ?_
                 refine pz_ 14 115 #[I,I,I,I,I,I,I,I,I,I,I,I,I,I,I,O,O,O,O,O,O,O,O,O,O,O,O,O,O] HT_.out ?_
                 refine pz_ 15 116 #[I,I,I,I,I,I,I,I,I,I,I,I,I,I,I,I,O,O,O,O,O,O,O,O,O,O,O,O,O] HT_.out ?_
                 refine pz_ 16 117 #[I,I,I,I,I,I,I,I,I,I,I,I,I,I,I,I,I,O,O,O,O,O,O,O,O,O,O,O,O] HT_.out ?_
                 refine pz_ 17 118 #[I,I,I,I,I,I,I,I,I,I,I,I,I,I,I,I,I,I,O,O,O,O,O,O,O,O,O,O,O] HT_.out ?_
                 refine pz_ 18 119 #[I,I,I,I,I,I,I,I,I,I,I,I,I,I,I,I,I,I,I,O,O,O,O,O,O,O,O,O,O] HT_.out ?_
                 refine pz_ 19 120 #[I,I,I,I,I,I,I,I,I,I,I,I,I,I,I,I,I,I,I,I,O,O,O,O,O,O,O,O,O] HT_.out ?_
                 refine pz_ 20 121 #[I,I,I,I,I,I,I,I,I,I,I,I,I,I,I,I,I,I,I,I,I,O,O,O,O,O,O,O,O] HT_.out ?_
                 refine pz_ 21 122 #[I,I,I,I,I,I,I,I,I,I,I,I,I,I,I,I,I,I,I,I,I,I,O,O,O,O,O,O,O] HT_.out ?_
                 refine pz_ 22 123 #[I,I,I,I,I,I,I,I,I,I,I,I,I,I,I,I,I,I,I,I,I,I,I,O,O,O,O,O,O] HT_.out ?_
                 refine pz_ 23 124 #[I,I,I,I,I,I,I,I,I,I,I,I,I,I,I,I,I,I,I,I,I,I,I,I,O,O,O,O,O] HT_.out ?_
                 refine pz_ 24 125 #[I,I,I,I,I,I,I,I,I,I,I,I,I,I,I,I,I,I,I,I,I,I,I,I,I,O,O,O,O] HT_.out ?_
                 refine pz_ 25 126 #[I,I,I,I,I,I,I,I,I,I,I,I,I,I,I,I,I,I,I,I,I,I,I,I,I,I,O,O,O] HT_.out ?_
                 refine pz_ 26 127 #[I,I,I,I,I,I,I,I,I,I,I,I,I,I,I,I,I,I,I,I,I,I,I,I,I,I,I,O,O] HT_.out ?_
                 refine pu_ 27 128 #[I,I,I,I,I,I,I,I,I,I,I,I,I,I,I,I,I,I,I,I,I,I,I,I,I,I,I,I,O] HT_.out ?_
                 refine pu_ 28 10 #[I,I,I,I,I,I,I,I,I,I,I,I,I,I,I,I,I,I,I,I,I,I,I,I,I,I,I,I,I] HT_.out ?_
                 refine gJ (eH HT_.out (by kernel_rfl)) ?_
                 try go_wp2
                 go_roundg k4
                 case measure=>have:=HJ2.out;have:=Gl.out;have:=II.out;have:=L8.out;omega
                 case rel=>exact ⟨(false),(wrap64 (Al + 1)),(by first|rfl|(simp;done)|(simp [*];done)),(by first|rfl|(simp;done)|(simp [*];done)),H',⟨by have:=HJ2.out;have:=Gl.out;have:=II.out;have:=L8.out;omega⟩,⟨by (with_reducible repeat (first|apply Kd.fA|apply Kd.fB|apply Kd.d9));exact Bh.out⟩,⟨by (with_reducible repeat (first|apply Kd.bP|apply Kd.bQ|apply Kd.bA));exact Ap.out⟩,⟨by (with_reducible repeat (first|apply Kd.bP|apply Kd.bQ|apply Kd.bA));exact Aq.out⟩,⟨by (with_reducible repeat (first|apply aC|apply aG|apply aH));exact Am.out⟩,⟨by (with_reducible repeat (first|apply aC|apply aG|apply aH));exact Ao.out⟩,⟨by (with_reducible repeat (first|apply aC|apply aG|apply aH));exact Aw.out⟩,⟨by (with_reducible repeat (first|apply aC|apply aG|apply aH));exact AL.out⟩,⟨hb_⟩⟩
               ·rw [if_neg Ma] at H
                exact absurd H (by simp)
              ·rw [if_neg L9] at H
               exact absurd H (by simp)
             ·rw [if_neg IK] at H
              have c94b0 : decide (Al < (AP.length : Int)) = false:=decide_eq_false IK
              clear IK
              replace H:=Option.bind_eq_some_iff.mp H
              obtain ⟨Gh,Ie,H⟩:=H
              replace H : (if Gh = true then (if (true == ((AO.length : Int) == 0)) = true then ((aI.f k4 BG AP BH AU).bind fun D5=>(if D5 = true then (some ((AO.length : Int) == 0)) else (some true))) else (some false)) else (some false)) = some r:=H
              have Kk:=Aside0.mk Ie
              clear Ie
              by_cases Hg : Gh = true
              ·subst Hg
               have H1 : (if (true == ((AO.length : Int) == 0)) = true then ((aI.f k4 BG AP BH AU).bind fun D5=>(if D5 = true then (some ((AO.length : Int) == 0)) else (some true))) else (some false)) = some r:=by rw [if_pos rfl] at H;exact H
               clear H
               have H:=H1
               clear H1
               by_cases DY : (true == ((AO.length : Int) == 0)) = true
               ·rw [if_pos DY] at H
                have c112b0 : (true == ((AO.length : Int) == 0)) = true:=DY
                (try (have c112b1 : decide (true = ((AO.length : Int) == 0)) = true:=by simpa using DY))
                (try (have c112b2 : (true == ((AO.length : Int) == 0)) = true:=by simpa using DY))
                clear DY
                replace H:=Option.bind_eq_some_iff.mp H
                obtain ⟨D5,Ig,H⟩:=H
                replace H : (if D5 = true then (some ((AO.length : Int) == 0)) else (some true)) = some r:=H
                have Kl:=Aside0.mk Ig
                clear Ig
                by_cases Hl : D5 = true
                ·subst Hl
                 have H1 : (some ((AO.length : Int) == 0)) = some r:=by rw [if_pos rfl] at H;exact H
                 clear H
                 have H:=H1
                 clear H1
                 obtain rfl:=Option.some.inj H
                 have MV:=BI.out
                 have MW:=Bn.out
                 have MX:=BJ.out
                 have MZ:=Bo.out
                 have M0:=Bq.out
                 have M4:=Bp.out
                 have Km : wr.cell? ⟨AV,0,none⟩ = some (.int .u64 BG):=(ah Aw.out 0).trans rfl
                 have Kn : wr.cell? ⟨AV,1,none⟩ = some (.slice Ck AP.length BZ):=(ah Aw.out 1).trans rfl
                 have Ko:=au Aw.out 0
                 have Kq:=au Aw.out 1
                 go_wp2_with (first|((with_reducible refine bq (f:=26) rfl ?_);refine cO (some 129) rfl rfl Tryd.func26 (by kernel_rfl) rfl #[] rfl (by (try simp only [List.map_toArray,List.map_cons,List.map_nil]);first|done|rfl|(simp only [List.length_drop,List.length_take];rfl)|(simp (disch:=first|omega|(simp at *;omega)) only [cZ,bS,dQ];rfl)) ?_;(with_reducible refine (bJ.calls k4  true _ Kk.out (by first|assumption|exact GW.below hG (by first|exact HB.out|assumption|(repeat (first|(with_reducible first|exact HB.out|apply bG|apply aT|apply aZ)|exact HB.out)))|exact GW.drawn hG (by first|assumption|(repeat (first|exact Drawn0.refl _|assumption|apply Drawn0.step))))).mono ?_);rintro e Ho ⟨rfl,hb⟩;refine ⟨_,rfl,?_⟩;have Bv:=Aside0.mk (Kd.fZ (kr_ Bh.out) hb);have Bw:=Aside0.mk (Kd.dx (kv_ Ap.out) hb);have Bz:=Aside0.mk (Kd.dx (kv_ Aq.out) hb);have BP:=Aside0.mk (aM (g:=AA) (o:=.cells #[.int .u64 Ay,.slice Bf Au.length Bg] 59 (0,0)) (bk_ Am.out) hb);have BS:=Aside0.mk (aM (g:=AQ) (o:=.cells #[.int .u64 AJ,.slice BD AB.length BF] 59 (0,0)) (bk_ Ao.out) hb);have Ch:=Aside0.mk (aM (g:=AV) (o:=.cells #[.int .u64 BG,.slice Ck AP.length BZ] 68 (0,0)) (bk_ Aw.out) hb);have CG:=Aside0.mk (aM (g:=AX) (o:=.cells #[.int .u64 BH,.slice CU AU.length Co] 68 (0,0)) (bk_ AL.out) hb);have CS:=Aside0.mk (aJ hb_ hb);clear Bh;clear Ap;clear Aq;clear Am;clear Ao;clear Aw;clear AL;clear HB;have Bh:=Bv;have Ap:=Bw;have Aq:=Bz;have Am:=BP;have Ao:=BS;have Aw:=Ch;have AL:=CG;have HB:=CS;clear Bv Bw Bz BP BS Ch CG CS;(try clear hb);(try clear hb2);(try clear hk);(try clear hi);have Kr : Ho.cell? ⟨AV,0,none⟩ = some (.int .u64 BG):=(ah Aw.out 0).trans rfl;have Kt : Ho.cell? ⟨AV,1,none⟩ = some (.slice Ck AP.length BZ):=(ah Aw.out 1).trans rfl;have Ku:=au Aw.out 0;have Kv:=au Aw.out 1;have M5:=BQ.out;have M6:=Br.out;have M7:=BR.out;have M8:=Bt.out;have Kw : Ho.cell? ⟨AX,0,none⟩ = some (.int .u64 BH):=(ah AL.out 0).trans rfl;have Ky : Ho.cell? ⟨AX,1,none⟩ = some (.slice CU AU.length Co):=(ah AL.out 1).trans rfl;have Kz:=au AL.out 0;have KA:=au AL.out 1)|(go_at_call 29;(with_reducible refine (aI.calls k4 BG _ _ AP BH _ _ AU true _ ?Bj ?Bl ?Dq ?Dr Kl.out).mono ?_);(case Bj=>repeat (first|exact (Kd.bL Ap.out).2.2|(with_reducible refine Kd.bC ?_ _)|(with_reducible refine Kd.bO ?_ _)|(with_reducible refine Kd.bW ?_)));(case Bl=>exact (Kd.bL Ap.out).2.1);(case Dq=>repeat (first|exact (Kd.bL Aq.out).2.2|(with_reducible refine Kd.bC ?_ _)|(with_reducible refine Kd.bO ?_ _)|(with_reducible refine Kd.bW ?_)));(case Dr=>exact (Kd.bL Aq.out).2.1);rintro e P9 ⟨rfl,hb⟩;have Bv:=Aside0.mk (Kd.fZ (kr_ Bh.out) hb);have Bw:=Aside0.mk (Kd.dx (kv_ Ap.out) hb);have Bz:=Aside0.mk (Kd.dx (kv_ Aq.out) hb);have BP:=Aside0.mk (aM (g:=AA) (o:=.cells #[.int .u64 Ay,.slice Bf Au.length Bg] 59 (0,0)) (bk_ Am.out) hb);have BS:=Aside0.mk (aM (g:=AQ) (o:=.cells #[.int .u64 AJ,.slice BD AB.length BF] 59 (0,0)) (bk_ Ao.out) hb);have Ch:=Aside0.mk (aM (g:=AV) (o:=.cells #[.int .u64 BG,.slice Ck AP.length BZ] 68 (0,0)) (bk_ Aw.out) hb);have CG:=Aside0.mk (aM (g:=AX) (o:=.cells #[.int .u64 BH,.slice CU AU.length Co] 68 (0,0)) (bk_ AL.out) hb);have CS:=Aside0.mk (aJ hb_ hb);clear Bh;clear Ap;clear Aq;clear Am;clear Ao;clear Aw;clear AL;clear HB;have Bh:=Bv;have Ap:=Bw;have Aq:=Bz;have Am:=BP;have Ao:=BS;have Aw:=Ch;have AL:=CG;have HB:=CS;clear Bv Bw Bz BP BS Ch CG CS;(try clear hb);(try clear hb2);(try clear hk);(try clear hi)))
                 go_ret
                 exact ⟨by first|rfl|(simp [aV,aW] <;> rfl)|(simp [*,aV,aW] <;> rfl),hb_⟩
                ·replace Hl:=Bool.eq_false_iff.mpr Hl
                 subst Hl
                 have H1 : (some true) = some r:=by rw [if_neg (show ¬ (false = true) by decide)] at H;exact H
                 clear H
                 have H:=H1
                 clear H1
                 obtain rfl:=Option.some.inj H
                 have M9:=BI.out
                 have Na:=Bn.out
                 have Nb:=BJ.out
                 have Nc:=Bo.out
                 have Nf:=Bq.out
                 have Ng:=Bp.out
                 have KC : wr.cell? ⟨AV,0,none⟩ = some (.int .u64 BG):=(ah Aw.out 0).trans rfl
                 have KD : wr.cell? ⟨AV,1,none⟩ = some (.slice Ck AP.length BZ):=(ah Aw.out 1).trans rfl
                 have KE:=au Aw.out 0
                 have KF:=au Aw.out 1
                 go_wp2_with (first|((with_reducible refine bq (f:=26) rfl ?_);refine cO (some 129) rfl rfl Tryd.func26 (by kernel_rfl) rfl #[] rfl (by (try simp only [List.map_toArray,List.map_cons,List.map_nil]);first|done|rfl|(simp only [List.length_drop,List.length_take];rfl)|(simp (disch:=first|omega|(simp at *;omega)) only [cZ,bS,dQ];rfl)) ?_;(with_reducible refine (bJ.calls k4  true _ Kk.out (by first|assumption|exact GW.below hG (by first|exact HB.out|assumption|(repeat (first|(with_reducible first|exact HB.out|apply bG|apply aT|apply aZ)|exact HB.out)))|exact GW.drawn hG (by first|assumption|(repeat (first|exact Drawn0.refl _|assumption|apply Drawn0.step))))).mono ?_);rintro e Hq ⟨rfl,hb⟩;refine ⟨_,rfl,?_⟩;have Bv:=Aside0.mk (Kd.fZ (kr_ Bh.out) hb);have Bw:=Aside0.mk (Kd.dx (kv_ Ap.out) hb);have Bz:=Aside0.mk (Kd.dx (kv_ Aq.out) hb);have BP:=Aside0.mk (aM (g:=AA) (o:=.cells #[.int .u64 Ay,.slice Bf Au.length Bg] 59 (0,0)) (bk_ Am.out) hb);have BS:=Aside0.mk (aM (g:=AQ) (o:=.cells #[.int .u64 AJ,.slice BD AB.length BF] 59 (0,0)) (bk_ Ao.out) hb);have Ch:=Aside0.mk (aM (g:=AV) (o:=.cells #[.int .u64 BG,.slice Ck AP.length BZ] 68 (0,0)) (bk_ Aw.out) hb);have CG:=Aside0.mk (aM (g:=AX) (o:=.cells #[.int .u64 BH,.slice CU AU.length Co] 68 (0,0)) (bk_ AL.out) hb);have CS:=Aside0.mk (aJ hb_ hb);clear Bh;clear Ap;clear Aq;clear Am;clear Ao;clear Aw;clear AL;clear HB;have Bh:=Bv;have Ap:=Bw;have Aq:=Bz;have Am:=BP;have Ao:=BS;have Aw:=Ch;have AL:=CG;have HB:=CS;clear Bv Bw Bz BP BS Ch CG CS;(try clear hb);(try clear hb2);(try clear hk);(try clear hi);have KG : Hq.cell? ⟨AV,0,none⟩ = some (.int .u64 BG):=(ah Aw.out 0).trans rfl;have KH : Hq.cell? ⟨AV,1,none⟩ = some (.slice Ck AP.length BZ):=(ah Aw.out 1).trans rfl;have KI:=au Aw.out 0;have KJ:=au Aw.out 1;have Nh:=BQ.out;have Nk:=Br.out;have Nl:=BR.out;have Nn:=Bt.out;have KL : Hq.cell? ⟨AX,0,none⟩ = some (.int .u64 BH):=(ah AL.out 0).trans rfl;have KM : Hq.cell? ⟨AX,1,none⟩ = some (.slice CU AU.length Co):=(ah AL.out 1).trans rfl;have KN:=au AL.out 0;have KO:=au AL.out 1)|(go_at_call 29;(with_reducible refine (aI.calls k4 BG _ _ AP BH _ _ AU false _ ?Bj ?Bl ?Dq ?Dr Kl.out).mono ?_);(case Bj=>repeat (first|exact (Kd.bL Ap.out).2.2|(with_reducible refine Kd.bC ?_ _)|(with_reducible refine Kd.bO ?_ _)|(with_reducible refine Kd.bW ?_)));(case Bl=>exact (Kd.bL Ap.out).2.1);(case Dq=>repeat (first|exact (Kd.bL Aq.out).2.2|(with_reducible refine Kd.bC ?_ _)|(with_reducible refine Kd.bO ?_ _)|(with_reducible refine Kd.bW ?_)));(case Dr=>exact (Kd.bL Aq.out).2.1);rintro e Qa ⟨rfl,hb⟩;have Bv:=Aside0.mk (Kd.fZ (kr_ Bh.out) hb);have Bw:=Aside0.mk (Kd.dx (kv_ Ap.out) hb);have Bz:=Aside0.mk (Kd.dx (kv_ Aq.out) hb);have BP:=Aside0.mk (aM (g:=AA) (o:=.cells #[.int .u64 Ay,.slice Bf Au.length Bg] 59 (0,0)) (bk_ Am.out) hb);have BS:=Aside0.mk (aM (g:=AQ) (o:=.cells #[.int .u64 AJ,.slice BD AB.length BF] 59 (0,0)) (bk_ Ao.out) hb);have Ch:=Aside0.mk (aM (g:=AV) (o:=.cells #[.int .u64 BG,.slice Ck AP.length BZ] 68 (0,0)) (bk_ Aw.out) hb);have CG:=Aside0.mk (aM (g:=AX) (o:=.cells #[.int .u64 BH,.slice CU AU.length Co] 68 (0,0)) (bk_ AL.out) hb);have CS:=Aside0.mk (aJ hb_ hb);clear Bh;clear Ap;clear Aq;clear Am;clear Ao;clear Aw;clear AL;clear HB;have Bh:=Bv;have Ap:=Bw;have Aq:=Bz;have Am:=BP;have Ao:=BS;have Aw:=Ch;have AL:=CG;have HB:=CS;clear Bv Bw Bz BP BS Ch CG CS;(try clear hb);(try clear hb2);(try clear hk);(try clear hi)))
                 go_ret
                 exact ⟨by first|rfl|(simp [aV,aW] <;> rfl)|(simp [*,aV,aW] <;> rfl),hb_⟩
               ·rw [if_neg DY] at H
                have c112b0 : (true == ((AO.length : Int) == 0)) = false:=by simpa using DY
                (try (have c112b1 : decide (true = ((AO.length : Int) == 0)) = false:=by simpa using DY))
                (try (have c112b2 : (true == ((AO.length : Int) == 0)) = false:=by simpa using DY))
                (try (have c112b3 : ¬ (true = ((AO.length : Int) == 0)):=by simpa using DY))
                clear DY
                exact absurd ((Option.some.inj H).trans HTr.out) (by decide)
              ·replace Hg:=Bool.eq_false_iff.mpr Hg
               subst Hg
               have H1 : (some false) = some r:=by rw [if_neg (show ¬ (false = true) by decide)] at H;exact H
               clear H
               have H:=H1
               clear H1
               exact absurd ((Option.some.inj H).trans HTr.out) (by decide)
            ·replace c93:=Bool.eq_false_iff.mpr c93
             subst c93
             have H1 : ((bJ.f k4).bind fun Gi=>(if Gi = true then (if (false == ((AO.length : Int) == 0)) = true then ((aI.f k4 BG AP BH AU).bind fun D6=>(if D6 = true then (some ((AO.length : Int) == 0)) else (some true))) else (some false)) else (some false))) = some r:=by rw [if_neg (show ¬ (false = true) by decide)] at H;exact H
             clear H
             have H:=H1
             clear H1
             replace H:=Option.bind_eq_some_iff.mp H
             obtain ⟨Gi,Ih,H⟩:=H
             replace H : (if Gi = true then (if (false == ((AO.length : Int) == 0)) = true then ((aI.f k4 BG AP BH AU).bind fun D6=>(if D6 = true then (some ((AO.length : Int) == 0)) else (some true))) else (some false)) else (some false)) = some r:=H
             have KP:=Aside0.mk Ih
             clear Ih
             by_cases c146 : Gi = true
             ·subst c146
              have H1 : (if (false == ((AO.length : Int) == 0)) = true then ((aI.f k4 BG AP BH AU).bind fun D6=>(if D6 = true then (some ((AO.length : Int) == 0)) else (some true))) else (some false)) = some r:=by rw [if_pos rfl] at H;exact H
              clear H
              have H:=H1
              clear H1
              by_cases DZ : (false == ((AO.length : Int) == 0)) = true
              ·rw [if_pos DZ] at H
               have c147b0 : (false == ((AO.length : Int) == 0)) = true:=DZ
               (try (have c147b1 : decide (false = ((AO.length : Int) == 0)) = true:=by simpa using DZ))
               (try (have c147b2 : (false == ((AO.length : Int) == 0)) = true:=by simpa using DZ))
               clear DZ
               replace H:=Option.bind_eq_some_iff.mp H
               obtain ⟨D6,Ii,H⟩:=H
               replace H : (if D6 = true then (some ((AO.length : Int) == 0)) else (some true)) = some r:=H
               have KQ:=Aside0.mk Ii
               clear Ii
               by_cases Hr : D6 = true
               ·subst Hr
                have H1 : (some ((AO.length : Int) == 0)) = some r:=by rw [if_pos rfl] at H;exact H
                clear H
                have H:=H1
                clear H1
                obtain rfl:=Option.some.inj H
                go_wp2_with (first|((with_reducible refine bq (f:=26) rfl ?_);refine cO (some 129) rfl rfl Tryd.func26 (by kernel_rfl) rfl #[] rfl (by (try simp only [List.map_toArray,List.map_cons,List.map_nil]);first|done|rfl|(simp only [List.length_drop,List.length_take];rfl)|(simp (disch:=first|omega|(simp at *;omega)) only [cZ,bS,dQ];rfl)) ?_;(with_reducible refine (bJ.calls k4  true _ KP.out (by first|assumption|exact GW.below hG (by first|exact HB.out|assumption|(repeat (first|(with_reducible first|exact HB.out|apply bG|apply aT|apply aZ)|exact HB.out)))|exact GW.drawn hG (by first|assumption|(repeat (first|exact Drawn0.refl _|assumption|apply Drawn0.step))))).mono ?_);rintro e Ht ⟨rfl,hb⟩;refine ⟨_,rfl,?_⟩;have Bv:=Aside0.mk (Kd.fZ (kr_ Bh.out) hb);have Bw:=Aside0.mk (Kd.dx (kv_ Ap.out) hb);have Bz:=Aside0.mk (Kd.dx (kv_ Aq.out) hb);have BP:=Aside0.mk (aM (g:=AA) (o:=.cells #[.int .u64 Ay,.slice Bf Au.length Bg] 59 (0,0)) (bk_ Am.out) hb);have BS:=Aside0.mk (aM (g:=AQ) (o:=.cells #[.int .u64 AJ,.slice BD AB.length BF] 59 (0,0)) (bk_ Ao.out) hb);have Ch:=Aside0.mk (aM (g:=AV) (o:=.cells #[.int .u64 BG,.slice Ck AP.length BZ] 68 (0,0)) (bk_ Aw.out) hb);have CG:=Aside0.mk (aM (g:=AX) (o:=.cells #[.int .u64 BH,.slice CU AU.length Co] 68 (0,0)) (bk_ AL.out) hb);have CS:=Aside0.mk (aJ hb_ hb);clear Bh;clear Ap;clear Aq;clear Am;clear Ao;clear Aw;clear AL;clear HB;have Bh:=Bv;have Ap:=Bw;have Aq:=Bz;have Am:=BP;have Ao:=BS;have Aw:=Ch;have AL:=CG;have HB:=CS;clear Bv Bw Bz BP BS Ch CG CS;(try clear hb);(try clear hb2);(try clear hk);(try clear hi);have Np:=BI.out;have Nq:=Bn.out;have Nr:=BJ.out;have Ns:=Bo.out;have Nt:=Bq.out;have Nu:=Bp.out;have KR : Ht.cell? ⟨AV,0,none⟩ = some (.int .u64 BG):=(ah Aw.out 0).trans rfl;have KS : Ht.cell? ⟨AV,1,none⟩ = some (.slice Ck AP.length BZ):=(ah Aw.out 1).trans rfl;have KT:=au Aw.out 0;have KU:=au Aw.out 1;have Nv:=BQ.out;have Nw:=Br.out;have Ny:=BR.out;have Nz:=Bt.out;have KV : Ht.cell? ⟨AX,0,none⟩ = some (.int .u64 BH):=(ah AL.out 0).trans rfl;have KW : Ht.cell? ⟨AX,1,none⟩ = some (.slice CU AU.length Co):=(ah AL.out 1).trans rfl;have KZ:=au AL.out 0;have K4:=au AL.out 1)|(go_at_call 29;(with_reducible refine (aI.calls k4 BG _ _ AP BH _ _ AU true _ ?Bj ?Bl ?Dq ?Dr KQ.out).mono ?_);(case Bj=>repeat (first|exact (Kd.bL Ap.out).2.2|(with_reducible refine Kd.bC ?_ _)|(with_reducible refine Kd.bO ?_ _)|(with_reducible refine Kd.bW ?_)));(case Bl=>exact (Kd.bL Ap.out).2.1);(case Dq=>repeat (first|exact (Kd.bL Aq.out).2.2|(with_reducible refine Kd.bC ?_ _)|(with_reducible refine Kd.bO ?_ _)|(with_reducible refine Kd.bW ?_)));(case Dr=>exact (Kd.bL Aq.out).2.1);rintro e Qb ⟨rfl,hb⟩;have Bv:=Aside0.mk (Kd.fZ (kr_ Bh.out) hb);have Bw:=Aside0.mk (Kd.dx (kv_ Ap.out) hb);have Bz:=Aside0.mk (Kd.dx (kv_ Aq.out) hb);have BP:=Aside0.mk (aM (g:=AA) (o:=.cells #[.int .u64 Ay,.slice Bf Au.length Bg] 59 (0,0)) (bk_ Am.out) hb);have BS:=Aside0.mk (aM (g:=AQ) (o:=.cells #[.int .u64 AJ,.slice BD AB.length BF] 59 (0,0)) (bk_ Ao.out) hb);have Ch:=Aside0.mk (aM (g:=AV) (o:=.cells #[.int .u64 BG,.slice Ck AP.length BZ] 68 (0,0)) (bk_ Aw.out) hb);have CG:=Aside0.mk (aM (g:=AX) (o:=.cells #[.int .u64 BH,.slice CU AU.length Co] 68 (0,0)) (bk_ AL.out) hb);have CS:=Aside0.mk (aJ hb_ hb);clear Bh;clear Ap;clear Aq;clear Am;clear Ao;clear Aw;clear AL;clear HB;have Bh:=Bv;have Ap:=Bw;have Aq:=Bz;have Am:=BP;have Ao:=BS;have Aw:=Ch;have AL:=CG;have HB:=CS;clear Bv Bw Bz BP BS Ch CG CS;(try clear hb);(try clear hb2);(try clear hk);(try clear hi)))
                go_ret
                exact ⟨by first|rfl|(simp [aV,aW] <;> rfl)|(simp [*,aV,aW] <;> rfl),hb_⟩
               ·replace Hr:=Bool.eq_false_iff.mpr Hr
                subst Hr
                have H1 : (some true) = some r:=by rw [if_neg (show ¬ (false = true) by decide)] at H;exact H
                clear H
                have H:=H1
                clear H1
                obtain rfl:=Option.some.inj H
                go_wp2_with (first|((with_reducible refine bq (f:=26) rfl ?_);refine cO (some 129) rfl rfl Tryd.func26 (by kernel_rfl) rfl #[] rfl (by (try simp only [List.map_toArray,List.map_cons,List.map_nil]);first|done|rfl|(simp only [List.length_drop,List.length_take];rfl)|(simp (disch:=first|omega|(simp at *;omega)) only [cZ,bS,dQ];rfl)) ?_;(with_reducible refine (bJ.calls k4  true _ KP.out (by first|assumption|exact GW.below hG (by first|exact HB.out|assumption|(repeat (first|(with_reducible first|exact HB.out|apply bG|apply aT|apply aZ)|exact HB.out)))|exact GW.drawn hG (by first|assumption|(repeat (first|exact Drawn0.refl _|assumption|apply Drawn0.step))))).mono ?_);rintro e Hu ⟨rfl,hb⟩;refine ⟨_,rfl,?_⟩;have Bv:=Aside0.mk (Kd.fZ (kr_ Bh.out) hb);have Bw:=Aside0.mk (Kd.dx (kv_ Ap.out) hb);have Bz:=Aside0.mk (Kd.dx (kv_ Aq.out) hb);have BP:=Aside0.mk (aM (g:=AA) (o:=.cells #[.int .u64 Ay,.slice Bf Au.length Bg] 59 (0,0)) (bk_ Am.out) hb);have BS:=Aside0.mk (aM (g:=AQ) (o:=.cells #[.int .u64 AJ,.slice BD AB.length BF] 59 (0,0)) (bk_ Ao.out) hb);have Ch:=Aside0.mk (aM (g:=AV) (o:=.cells #[.int .u64 BG,.slice Ck AP.length BZ] 68 (0,0)) (bk_ Aw.out) hb);have CG:=Aside0.mk (aM (g:=AX) (o:=.cells #[.int .u64 BH,.slice CU AU.length Co] 68 (0,0)) (bk_ AL.out) hb);have CS:=Aside0.mk (aJ hb_ hb);clear Bh;clear Ap;clear Aq;clear Am;clear Ao;clear Aw;clear AL;clear HB;have Bh:=Bv;have Ap:=Bw;have Aq:=Bz;have Am:=BP;have Ao:=BS;have Aw:=Ch;have AL:=CG;have HB:=CS;clear Bv Bw Bz BP BS Ch CG CS;(try clear hb);(try clear hb2);(try clear hk);(try clear hi);have NA:=BI.out;have NC:=Bn.out;have ND:=BJ.out;have NG:=Bo.out;have NH:=Bq.out;have NI:=Bp.out;have K5 : Hu.cell? ⟨AV,0,none⟩ = some (.int .u64 BG):=(ah Aw.out 0).trans rfl;have K7 : Hu.cell? ⟨AV,1,none⟩ = some (.slice Ck AP.length BZ):=(ah Aw.out 1).trans rfl;have K8:=au Aw.out 0;have K9:=au Aw.out 1;have NJ:=BQ.out;have NK:=Br.out;have NM:=BR.out;have NP:=Bt.out;have La : Hu.cell? ⟨AX,0,none⟩ = some (.int .u64 BH):=(ah AL.out 0).trans rfl;have Lb : Hu.cell? ⟨AX,1,none⟩ = some (.slice CU AU.length Co):=(ah AL.out 1).trans rfl;have Lc:=au AL.out 0;have Ld:=au AL.out 1)|(go_at_call 29;(with_reducible refine (aI.calls k4 BG _ _ AP BH _ _ AU false _ ?Bj ?Bl ?Dq ?Dr KQ.out).mono ?_);(case Bj=>repeat (first|exact (Kd.bL Ap.out).2.2|(with_reducible refine Kd.bC ?_ _)|(with_reducible refine Kd.bO ?_ _)|(with_reducible refine Kd.bW ?_)));(case Bl=>exact (Kd.bL Ap.out).2.1);(case Dq=>repeat (first|exact (Kd.bL Aq.out).2.2|(with_reducible refine Kd.bC ?_ _)|(with_reducible refine Kd.bO ?_ _)|(with_reducible refine Kd.bW ?_)));(case Dr=>exact (Kd.bL Aq.out).2.1);rintro e Qc ⟨rfl,hb⟩;have Bv:=Aside0.mk (Kd.fZ (kr_ Bh.out) hb);have Bw:=Aside0.mk (Kd.dx (kv_ Ap.out) hb);have Bz:=Aside0.mk (Kd.dx (kv_ Aq.out) hb);have BP:=Aside0.mk (aM (g:=AA) (o:=.cells #[.int .u64 Ay,.slice Bf Au.length Bg] 59 (0,0)) (bk_ Am.out) hb);have BS:=Aside0.mk (aM (g:=AQ) (o:=.cells #[.int .u64 AJ,.slice BD AB.length BF] 59 (0,0)) (bk_ Ao.out) hb);have Ch:=Aside0.mk (aM (g:=AV) (o:=.cells #[.int .u64 BG,.slice Ck AP.length BZ] 68 (0,0)) (bk_ Aw.out) hb);have CG:=Aside0.mk (aM (g:=AX) (o:=.cells #[.int .u64 BH,.slice CU AU.length Co] 68 (0,0)) (bk_ AL.out) hb);have CS:=Aside0.mk (aJ hb_ hb);clear Bh;clear Ap;clear Aq;clear Am;clear Ao;clear Aw;clear AL;clear HB;have Bh:=Bv;have Ap:=Bw;have Aq:=Bz;have Am:=BP;have Ao:=BS;have Aw:=Ch;have AL:=CG;have HB:=CS;clear Bv Bw Bz BP BS Ch CG CS;(try clear hb);(try clear hb2);(try clear hk);(try clear hi)))
                go_ret
                exact ⟨by first|rfl|(simp [aV,aW] <;> rfl)|(simp [*,aV,aW] <;> rfl),hb_⟩
              ·rw [if_neg DZ] at H
               have c147b0 : (false == ((AO.length : Int) == 0)) = false:=by simpa using DZ
               (try (have c147b1 : decide (false = ((AO.length : Int) == 0)) = false:=by simpa using DZ))
               (try (have c147b2 : (false == ((AO.length : Int) == 0)) = false:=by simpa using DZ))
               (try (have c147b3 : ¬ (false = ((AO.length : Int) == 0)):=by simpa using DZ))
               clear DZ
               exact absurd ((Option.some.inj H).trans HTr.out) (by decide)
             ·replace c146:=Bool.eq_false_iff.mpr c146
              subst c146
              have H1 : (some false) = some r:=by rw [if_neg (show ¬ (false = true) by decide)] at H;exact H
              clear H
              have H:=H1
              clear H1
              exact absurd ((Option.some.inj H).trans HTr.out) (by decide)
end Go.Proofs.YtpflenjhmeaeoaaDoor.GUt
