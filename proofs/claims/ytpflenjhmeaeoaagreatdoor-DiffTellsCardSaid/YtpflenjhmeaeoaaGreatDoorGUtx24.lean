/- Written by this session's own program (wip/gen.py) out of the translation: plain Lean functions of the Go functions, and proofs that the calls come to their answers. No conditions beside those in the statements. -/
import Derived.Test.YtpflenjhmeaeoaaGreatDoorCp
import Derived.Test.YtpflenjhmeaeoaaGreatDoorGUtx0
import Derived.Test.YtpflenjhmeaeoaaGreatDoorGUtx4
import Derived.Test.YtpflenjhmeaeoaaGreatDoorGUtx5
import Derived.Test.YtpflenjhmeaeoaaGreatDoorGUtx6
import Derived.Test.YtpflenjhmeaeoaaGreatDoorGUtx7
import Derived.Test.YtpflenjhmeaeoaaGreatDoorGUtx20
import Derived.Test.YtpflenjhmeaeoaaGreatDoorGUtx21
import Derived.Test.YtpflenjhmeaeoaaGreatDoorGUtx22
import Derived.Test.YtpflenjhmeaeoaaGreatDoorGUtx23
import Derived.Test.YtpflenjhmeaeoaaGreatDoorGUtKind
import Derived.Test.YtpflenjhmeaeoaaGreatDoorGUtOfs
import Derived.Test.YtpflenjhmeaeoaaGreatDoorGW
namespace Go.Proofs.YtpflenjhmeaeoaaGreatDoor.GUt
open Go.RowKit Go.Proofs.YtpflenjhmeaeoaaGreatDoorW.PrintWords Go.Proofs.YtpflenjhmeaeoaaGreatDoorW.PrintLast Go.Proofs.YtpflenjhmeaeoaaGreatDoorW.PrintMore
attribute [local go_sem] fJ fK gH gI eO eP fM fO
set_option linter.unusedVariables false
set_option linter.unusedSimpArgs false
def aH.j0 : Nat → Int → ByteArray → Bool → Int → List (S51) → Int → List (S51) → Option (Bool)
 | 0,_,_,_,_,_,_,_=>none
 | k + 1,x2,x3,x32,Cv,Cw,Cz,CB=>if x32 = true then ((bQ.f k).bind fun CG=>(some CG)) else ((bQ.f k).bind fun CJ=>(if CJ = true then ((av.f k Cv Cw Cz CB).bind fun Ci=>((dx.f Cv Cw).bind fun BR=>((dx.f Cz CB).bind fun BP=>((aA.f k BR.1 BR.2 BP.1 BP.2).bind fun BZ=>((bq.f k Ci BZ).bind fun Ca=>(if Ca = true then ((bI.f x2 x3 (⟨#[120]⟩ : ByteArray)).bind fun BK=>((cB.f x2 x3 (⟨#[120]⟩ : ByteArray)).bind fun BJ=>(if BK.toList = BJ.toList then ((dF.f x2).bind fun BO=>((dI.f x2).bind fun BL=>(some (BO.toList == BL.toList)))) else (some false)))) else (some false))))))) else (some false)))
def aH.f (k : Nat) (Bh : Int) (Bg : List (S51)) (Bn : Int) (Bj : List (S51)) (a2 : Int) (a3 : ByteArray) : Option (Bool):=(aU.f k Bh Bg).bind fun CK=>(if CK = true then ((aU.f k Bn Bj).bind fun Ct=>(if Ct = true then ((aX.f k Bh Bg).bind fun Cj=>(if Cj = true then ((aX.f k Bn Bj).bind fun Cb=>(if Cb = true then (aH.j0 k a2 a3 (decide ((a3.size : Int) > 200)) Bh Bg Bn Bj) else (aH.j0 k a2 a3 true Bh Bg Bn Bj))) else (aH.j0 k a2 a3 true Bh Bg Bn Bj))) else (aH.j0 k a2 a3 true Bh Bg Bn Bj))) else (aH.j0 k a2 a3 true Bh Bg Bn Bj))
theorem aH.dQ : ∀ k,(∀ y0 y1 y2 y3 y4 y5 y6,LeO (aH.j0 k y0 y1 y2 y3 y4 y5 y6) (aH.j0 (k + 1) y0 y1 y2 y3 y4 y5 y6))
 | 0=>fun _ _ _ _ _ _ _ r h=>by simp [aH.j0] at h
 | k + 1=>by
  have Dn:=aH.dQ k
  ·intro y0 y1 y2 y3 y4 y5 y6
   unfold aH.j0
   repeat' first
   | (with_reducible exact Dn _ _ _ _ _ _ _)
   | (with_reducible exact aU.mono _ _ _)
   | (with_reducible exact bQ.mono _)
   | (with_reducible exact bq.mono _ _ _)
   | (with_reducible exact aX.mono _ _ _)
   | (with_reducible exact aA.mono _ _ _ _ _)
   | (with_reducible exact av.mono _ _ _ _ _)
   | (with_reducible exact LeO.refl _)
   | (with_reducible exact LeO.none _)
   | (with_reducible refine LeO.ite ?_ ?_)
   | (with_reducible refine LeO.bind ?_ (fun _=>?_))
   | exact Dn _ _ _ _ _ _ _
   | exact aU.mono _ _ _
   | exact bQ.mono _
   | exact bq.mono _ _ _
   | exact aX.mono _ _ _
   | exact aA.mono _ _ _ _ _
   | exact av.mono _ _ _ _ _
   | exact LeO.none _
   | refine LeO.ite ?_ ?_
   | refine LeO.bind ?_ (fun _=>?_)
theorem aH.mono : ∀ a0 a1 a2 a3 a4 a5 k,LeO (aH.f k a0 a1 a2 a3 a4 a5) (aH.f (k + 1) a0 a1 a2 a3 a4 a5):=by
 intro a0 a1 a2 a3 a4 a5 k
 have Dn:=aH.dQ k
 unfold aH.f
 repeat' first
   | (with_reducible exact Dn _ _ _ _ _ _ _)
   | (with_reducible exact aU.mono _ _ _)
   | (with_reducible exact bQ.mono _)
   | (with_reducible exact bq.mono _ _ _)
   | (with_reducible exact aX.mono _ _ _)
   | (with_reducible exact aA.mono _ _ _ _ _)
   | (with_reducible exact av.mono _ _ _ _ _)
   | (with_reducible exact LeO.refl _)
   | (with_reducible exact LeO.none _)
   | (with_reducible refine LeO.ite ?_ ?_)
   | (with_reducible refine LeO.bind ?_ (fun _=>?_))
   | exact Dn _ _ _ _ _ _ _
   | exact aU.mono _ _ _
   | exact bQ.mono _
   | exact bq.mono _ _ _
   | exact aX.mono _ _ _
   | exact aA.mono _ _ _ _ _
   | exact av.mono _ _ _ _ _
   | exact LeO.none _
   | refine LeO.ite ?_ ?_
   | refine LeO.bind ?_ (fun _=>?_)
def aH.T4 : Bool × List (List Nat × List Nat):=(true,[([],[]),([0,0],[0]),([1],[1]),([1],[1]),([2,3,1,1],[1,2,3]),([1],[1]),([5,4,1],[1,5]),([1],[1]),([7,6,1],[1,7]),([6,8,8,1],[1,6,8]),([4,9,9,1],[1,4,9]),([1,10],[1,10]),([11,10],[11]),([12],[12]),([13,12,12],[12,13]),([12],[12]),([12],[12]),([15,16,12],[12,15,16]),([17,14,12],[12,17]),([14,18,12],[12,14,18]),([12,19],[12,19]),([20,18],[20]),([21],[21]),([22,21,21],[21,22]),([21],[21]),([24,23,21],[21,24]),([23,25,21],[21,23,25]),([21,26],[21,26]),([27,25,0,1,2,3,4,5,6,7,8,9,10,11,12,13,14,15,16,17,18,19,20,21,22,23,24,25,26,27],[27])])
def aH.B4 : List Nat:=[0,1,3,3,15,3,63,3,255,511,1023,2047,4095,8191,16383,8191,8191,106495,262143,524287,1048575,2097151,4194303,8388607,4194303,33554431,67108863,134217727,268435455]
theorem aH.wh : gV .any (opsOf Tryz.f3 4) = aH.T4:=by kernel_rfl
theorem aH.rD : fQ aH.T4.2 aH.B4 = true:=by kernel_rfl
set_option maxHeartbeats 8000000 in
set_option maxRecDepth 100000 in
theorem aH.calls (k : Nat) (Bh : Int) (Bt : Option Addr) (Bu : Nat) (Bg : List (S51)) (Bn : Int) (Bw : Option Addr) (Bz : Nat) (Bj : List (S51)) (a2 : Int) (a3 : ByteArray) (r : Bool) (w : World) (C8 : Kd.C k51 w Bt Bg.length Bg) (C9 : Bg.length ≤ Bu) (Da : Kd.C k51 w Bw Bj.length Bj) (Db : Bj.length ≤ Bz) (h : aH.f k Bh Bg Bn Bj a2 a3 = some r) (hG : GW.GW w) (hT : r = true) :
  Calls Tryz.prog 3 #[.agg #[.int .u64 Bh,.slice Bt Bg.length Bu],.agg #[.int .u64 Bn,.slice Bw Bj.length Bz],.int .i64 a2,.string a3] w fun e w'=>e = .returned (.bool r) ∧ Below w.heap.size w w':=by
 have HTr:=Aside0.mk hT
 clear hT
 have Gf:=Tryz.underlying25
 have Gg:=Tryz.underlying30
 have Gh:=Tryz.underlying43
 have Cg:=Aside0.mk C8
 have Ch:=Aside0.mk C9
 clear C8 C9
 have Cm:=Aside0.mk Da
 have Cn:=Aside0.mk Db
 clear Da Db
 have HB:=Aside0.mk (Below.refl w.heap.size w)
 have H : ((aU.f k Bh Bg).bind fun CK=>(if CK = true then ((aU.f k Bn Bj).bind fun Ct=>(if Ct = true then ((aX.f k Bh Bg).bind fun Cj=>(if Cj = true then ((aX.f k Bn Bj).bind fun Cb=>(if Cb = true then (aH.j0 k a2 a3 (decide ((a3.size : Int) > 200)) Bh Bg Bn Bj) else (aH.j0 k a2 a3 true Bh Bg Bn Bj))) else (aH.j0 k a2 a3 true Bh Bg Bn Bj))) else (aH.j0 k a2 a3 true Bh Bg Bn Bj))) else (aH.j0 k a2 a3 true Bh Bg Bn Bj))) = some r:=h
 clear h
 have Fj:=Aside0.mk H
 clear H
 go_enter Tryz.func3,Tryz.ntmps3
 go_upto_region 1 with (first|((with_reducible refine cZ (N:=4) rfl ?_);(try (refine iw (by rfl) ?_;dsimp only));refine dA ?hg (N:=4) ?hd (cs:=#[.int .u64 Bh,.slice Bt Bg.length Bu]) (t:=25) ?hr ?_;(case hd=>rfl);(case hg=>rfl);(case hr=>first|(go_simp;done)|(go_simp;rfl));intro Bo hg w6 hbox hb;have BD:=Aside0.mk (aK hb_ hb);have BF:=Aside0.mk (hbox);have BG:=Aside0.mk ((by rw [hg];exact (aM hb_) : w.heap.size ≤ Bo));have BS:=Aside0.mk ((by rw [hg];exact (aM hb_) : w.heap.size ≤ Bo));clear HB;have HB:=BD;have AZ:=BF;have Dc:=BG;have FC:=BS;clear BD BF BG BS;clear hb hbox hg)|((with_reducible refine cZ (N:=5) rfl ?_);(try (refine iw (by rfl) ?_;dsimp only));refine dA ?hg (N:=5) ?hd (cs:=#[.int .u64 Bn,.slice Bw Bj.length Bz]) (t:=25) ?hr ?_;(case hd=>rfl);(case hg=>rfl);(case hr=>first|(go_simp;done)|(go_simp;rfl));intro Bp hg w7 hbox hb;have BD:=Aside0.mk (aN (g:=Bo) (o:=.cells #[.int .u64 Bh,.slice Bt Bg.length Bu] 25 (0,0)) (bk_ AZ.out) hb);have BF:=Aside0.mk (aK hb_ hb);have BG:=Aside0.mk (hbox);have BS:=Aside0.mk ((by rw [hg];exact (aM hb_) : w.heap.size ≤ Bp));have Ck:=Aside0.mk ((by rw [hg];exact (aM hb_) : w.heap.size ≤ Bp));have Co:=Aside0.mk ((by rw [hg];exact Nat.ne_of_lt (dh (g:=Bo) (o:=.cells #[.int .u64 Bh,.slice Bt Bg.length Bu] 25 (0,0)) (bk_ AZ.out)) : Bo ≠ Bp));have Cq:=Aside0.mk ((by rw [hg];exact Nat.ne_of_gt (dh (g:=Bo) (o:=.cells #[.int .u64 Bh,.slice Bt Bg.length Bu] 25 (0,0)) (bk_ AZ.out)) : Bp ≠ Bo));clear AZ;clear HB;have AZ:=BD;have HB:=BF;have Bf:=BG;have Df:=BS;have FD:=Ck;have BU:=Co;have BX:=Cq;clear BD BF BG BS Ck Co Cq;clear hb hbox hg))
 (try simp only [Act.put,List.setIfInBounds_toArray,List.set_cons_zero,List.set_cons_succ])
 go_cut [32] (fun v32 wc=>∃ (kq : Nat) (CF : Bool),v32 = .bool CF ∧ Aside0 (aH.j0 kq a2 a3 CF Bh Bg Bn Bj = some r) ∧ Aside0 (kq ≤ k) ∧ Aside0 (wc.heap[Bo]? = some (.cells #[.int .u64 Bh,(.slice Bt Bg.length Bu)] 25 (0,0))) ∧ Aside0 (wc.heap[Bp]? = some (.cells #[.int .u64 Bn,(.slice Bw Bj.length Bz)] 25 (0,0))) ∧ Aside0 (Below w.heap.size w wc))
 case first =>
  have H:=Fj.out
  clear Fj
  replace H:=Option.bind_eq_some_iff.mp H
  obtain ⟨CK,FE,H⟩:=H
  replace H : (if CK = true then ((aU.f k Bn Bj).bind fun Ct=>(if Ct = true then ((aX.f k Bh Bg).bind fun Cj=>(if Cj = true then ((aX.f k Bn Bj).bind fun Cb=>(if Cb = true then (aH.j0 k a2 a3 (decide ((a3.size : Int) > 200)) Bh Bg Bn Bj) else (aH.j0 k a2 a3 true Bh Bg Bn Bj))) else (aH.j0 k a2 a3 true Bh Bg Bn Bj))) else (aH.j0 k a2 a3 true Bh Bg Bn Bj))) else (aH.j0 k a2 a3 true Bh Bg Bn Bj)) = some r:=H
  have A8:=Aside0.mk FE
  clear FE
  by_cases c9 : CK = true
  ·subst c9
   have H1 : ((aU.f k Bn Bj).bind fun Ct=>(if Ct = true then ((aX.f k Bh Bg).bind fun Cj=>(if Cj = true then ((aX.f k Bn Bj).bind fun Cb=>(if Cb = true then (aH.j0 k a2 a3 (decide ((a3.size : Int) > 200)) Bh Bg Bn Bj) else (aH.j0 k a2 a3 true Bh Bg Bn Bj))) else (aH.j0 k a2 a3 true Bh Bg Bn Bj))) else (aH.j0 k a2 a3 true Bh Bg Bn Bj))) = some r:=by rw [if_pos rfl] at H;exact H
   clear H
   have H:=H1
   clear H1
   replace H:=Option.bind_eq_some_iff.mp H
   obtain ⟨Ct,Dp,H⟩:=H
   replace H : (if Ct = true then ((aX.f k Bh Bg).bind fun Cj=>(if Cj = true then ((aX.f k Bn Bj).bind fun Cb=>(if Cb = true then (aH.j0 k a2 a3 (decide ((a3.size : Int) > 200)) Bh Bg Bn Bj) else (aH.j0 k a2 a3 true Bh Bg Bn Bj))) else (aH.j0 k a2 a3 true Bh Bg Bn Bj))) else (aH.j0 k a2 a3 true Bh Bg Bn Bj)) = some r:=H
   have DU:=Aside0.mk Dp
   clear Dp
   by_cases c11 : Ct = true
   ·subst c11
    have H1 : ((aX.f k Bh Bg).bind fun Cj=>(if Cj = true then ((aX.f k Bn Bj).bind fun Cb=>(if Cb = true then (aH.j0 k a2 a3 (decide ((a3.size : Int) > 200)) Bh Bg Bn Bj) else (aH.j0 k a2 a3 true Bh Bg Bn Bj))) else (aH.j0 k a2 a3 true Bh Bg Bn Bj))) = some r:=by rw [if_pos rfl] at H;exact H
    clear H
    have H:=H1
    clear H1
    replace H:=Option.bind_eq_some_iff.mp H
    obtain ⟨Cj,Dq,H⟩:=H
    replace H : (if Cj = true then ((aX.f k Bn Bj).bind fun Cb=>(if Cb = true then (aH.j0 k a2 a3 (decide ((a3.size : Int) > 200)) Bh Bg Bn Bj) else (aH.j0 k a2 a3 true Bh Bg Bn Bj))) else (aH.j0 k a2 a3 true Bh Bg Bn Bj)) = some r:=H
    have Fp:=Aside0.mk Dq
    clear Dq
    by_cases c13 : Cj = true
    ·subst c13
     have H1 : ((aX.f k Bn Bj).bind fun Cb=>(if Cb = true then (aH.j0 k a2 a3 (decide ((a3.size : Int) > 200)) Bh Bg Bn Bj) else (aH.j0 k a2 a3 true Bh Bg Bn Bj))) = some r:=by rw [if_pos rfl] at H;exact H
     clear H
     have H:=H1
     clear H1
     replace H:=Option.bind_eq_some_iff.mp H
     obtain ⟨Cb,Dr,H⟩:=H
     replace H : (if Cb = true then (aH.j0 k a2 a3 (decide ((a3.size : Int) > 200)) Bh Bg Bn Bj) else (aH.j0 k a2 a3 true Bh Bg Bn Bj)) = some r:=H
     have FH:=Aside0.mk Dr
     clear Dr
     by_cases c15 : Cb = true
     ·subst c15
      have H1 : (aH.j0 k a2 a3 (decide ((a3.size : Int) > 200)) Bh Bg Bn Bj) = some r:=by rw [if_pos rfl] at H;exact H
      clear H
      have H:=H1
      clear H1
      have H':=Aside0.mk H
      clear H
      have FI:=BU.out
      have FJ:=BX.out
      have DV : w7.cell? ⟨Bo,0,none⟩ = some (.int .u64 Bh):=(ah AZ.out 0).trans rfl
      have DW : w7.cell? ⟨Bo,1,none⟩ = some (.slice Bt Bg.length Bu):=(ah AZ.out 1).trans rfl
      have DX:=ak AZ.out 0
      have DY:=ak AZ.out 1
      go_wp2_with (first|((with_reducible refine bF (f:=4) rfl ?_);refine dN (some 11) rfl rfl Tryz.func4 (by kernel_rfl) rfl #[.agg #[.int .u64 Bh,.slice Bt Bg.length Bu]] rfl (by (try simp only [List.map_toArray,List.map_cons,List.map_nil]);first|done|rfl|(simp only [List.length_drop,List.length_take];rfl)|(simp (disch:=first|omega|(simp at *;omega)) only [dO,dG,eH];rfl)) ?_;(with_reducible refine (aU.calls k Bh _ _ Bg true _ ?Br ?Bv A8.out).mono ?_);(case Br=>repeat (first|exact (Kd.bO Cg.out HB.out)|(with_reducible refine Kd.bD ?_ _)|(with_reducible refine Kd.bR ?_ _)|(with_reducible refine Kd.bZ ?_)));(case Bv=>exact Ch.out);rintro e FL ⟨rfl,hb⟩;refine ⟨_,rfl,?_⟩;have BD:=Aside0.mk (aN (g:=Bo) (o:=.cells #[.int .u64 Bh,.slice Bt Bg.length Bu] 25 (0,0)) (bk_ AZ.out) hb);have BF:=Aside0.mk (aN (g:=Bp) (o:=.cells #[.int .u64 Bn,.slice Bw Bj.length Bz] 25 (0,0)) (bk_ Bf.out) hb);have BG:=Aside0.mk (aK hb_ hb);clear AZ;clear Bf;clear HB;have AZ:=BD;have Bf:=BF;have HB:=BG;clear BD BF BG;(try clear hb);(try clear hb2);(try clear hk);(try clear hi);have DZ : FL.cell? ⟨Bp,0,none⟩ = some (.int .u64 Bn):=(ah Bf.out 0).trans rfl;have D5 : FL.cell? ⟨Bp,1,none⟩ = some (.slice Bw Bj.length Bz):=(ah Bf.out 1).trans rfl;have D6:=ak Bf.out 0;have D7:=ak Bf.out 1)|(go_at_call 4;(with_reducible refine (aU.calls k Bn _ _ Bj true _ ?Br ?Bv DU.out).mono ?_);(case Br=>repeat (first|exact (Kd.bO Cm.out HB.out)|(with_reducible refine Kd.bD ?_ _)|(with_reducible refine Kd.bR ?_ _)|(with_reducible refine Kd.bZ ?_)));(case Bv=>exact Cn.out);rintro e FM ⟨rfl,hb⟩;have BD:=Aside0.mk (aN (g:=Bo) (o:=.cells #[.int .u64 Bh,.slice Bt Bg.length Bu] 25 (0,0)) (bk_ AZ.out) hb);have BF:=Aside0.mk (aN (g:=Bp) (o:=.cells #[.int .u64 Bn,.slice Bw Bj.length Bz] 25 (0,0)) (bk_ Bf.out) hb);have BG:=Aside0.mk (aK hb_ hb);clear AZ;clear Bf;clear HB;have AZ:=BD;have Bf:=BF;have HB:=BG;clear BD BF BG;(try clear hb);(try clear hb2);(try clear hk);(try clear hi);have D8 : FM.cell? ⟨Bo,0,none⟩ = some (.int .u64 Bh):=(ah AZ.out 0).trans rfl;have D9 : FM.cell? ⟨Bo,1,none⟩ = some (.slice Bt Bg.length Bu):=(ah AZ.out 1).trans rfl;have Ea:=ak AZ.out 0;have Eb:=ak AZ.out 1)|(go_at_call 5;(with_reducible refine (aX.calls k Bh _ _ Bg true _ ?Br ?Bv Fp.out).mono ?_);(case Br=>repeat (first|exact (Kd.bO Cg.out HB.out)|(with_reducible refine Kd.bD ?_ _)|(with_reducible refine Kd.bR ?_ _)|(with_reducible refine Kd.bZ ?_)));(case Bv=>exact Ch.out);rintro e FN ⟨rfl,hb⟩;have BD:=Aside0.mk (aN (g:=Bo) (o:=.cells #[.int .u64 Bh,.slice Bt Bg.length Bu] 25 (0,0)) (bk_ AZ.out) hb);have BF:=Aside0.mk (aN (g:=Bp) (o:=.cells #[.int .u64 Bn,.slice Bw Bj.length Bz] 25 (0,0)) (bk_ Bf.out) hb);have BG:=Aside0.mk (aK hb_ hb);clear AZ;clear Bf;clear HB;have AZ:=BD;have Bf:=BF;have HB:=BG;clear BD BF BG;(try clear hb);(try clear hb2);(try clear hk);(try clear hi);have Ec : FN.cell? ⟨Bp,0,none⟩ = some (.int .u64 Bn):=(ah Bf.out 0).trans rfl;have Ed : FN.cell? ⟨Bp,1,none⟩ = some (.slice Bw Bj.length Bz):=(ah Bf.out 1).trans rfl;have Ee:=ak Bf.out 0;have Ef:=ak Bf.out 1)|(go_at_call 5;(with_reducible refine (aX.calls k Bn _ _ Bj true _ ?Br ?Bv FH.out).mono ?_);(case Br=>repeat (first|exact (Kd.bO Cm.out HB.out)|(with_reducible refine Kd.bD ?_ _)|(with_reducible refine Kd.bR ?_ _)|(with_reducible refine Kd.bZ ?_)));(case Bv=>exact Cn.out);rintro e Gz ⟨rfl,hb⟩;have BD:=Aside0.mk (aN (g:=Bo) (o:=.cells #[.int .u64 Bh,.slice Bt Bg.length Bu] 25 (0,0)) (bk_ AZ.out) hb);have BF:=Aside0.mk (aN (g:=Bp) (o:=.cells #[.int .u64 Bn,.slice Bw Bj.length Bz] 25 (0,0)) (bk_ Bf.out) hb);have BG:=Aside0.mk (aK hb_ hb);clear AZ;clear Bf;clear HB;have AZ:=BD;have Bf:=BF;have HB:=BG;clear BD BF BG;(try clear hb);(try clear hb2);(try clear hk);(try clear hi)))
      go_meet
      case rel=>exact ⟨_,(decide ((a3.size : Int) > 200)),(by first|rfl|(simp;done)|(simp [*];done)),H',⟨by first|omega|exact Nat.le_refl _⟩,⟨by (with_reducible repeat (first|apply ay|apply aG|apply aD));exact AZ.out⟩,⟨by (with_reducible repeat (first|apply ay|apply aG|apply aD));exact Bf.out⟩,⟨hb_⟩⟩
     ·replace c15:=Bool.eq_false_iff.mpr c15
      subst c15
      have H1 : (aH.j0 k a2 a3 true Bh Bg Bn Bj) = some r:=by rw [if_neg (show ¬ (false = true) by decide)] at H;exact H
      clear H
      have H:=H1
      clear H1
      have H':=Aside0.mk H
      clear H
      have FP:=BU.out
      have FQ:=BX.out
      have Eh : w7.cell? ⟨Bo,0,none⟩ = some (.int .u64 Bh):=(ah AZ.out 0).trans rfl
      have Ei : w7.cell? ⟨Bo,1,none⟩ = some (.slice Bt Bg.length Bu):=(ah AZ.out 1).trans rfl
      have Ej:=ak AZ.out 0
      have El:=ak AZ.out 1
      go_wp2_with (first|((with_reducible refine bF (f:=4) rfl ?_);refine dN (some 11) rfl rfl Tryz.func4 (by kernel_rfl) rfl #[.agg #[.int .u64 Bh,.slice Bt Bg.length Bu]] rfl (by (try simp only [List.map_toArray,List.map_cons,List.map_nil]);first|done|rfl|(simp only [List.length_drop,List.length_take];rfl)|(simp (disch:=first|omega|(simp at *;omega)) only [dO,dG,eH];rfl)) ?_;(with_reducible refine (aU.calls k Bh _ _ Bg true _ ?Br ?Bv A8.out).mono ?_);(case Br=>repeat (first|exact (Kd.bO Cg.out HB.out)|(with_reducible refine Kd.bD ?_ _)|(with_reducible refine Kd.bR ?_ _)|(with_reducible refine Kd.bZ ?_)));(case Bv=>exact Ch.out);rintro e FR ⟨rfl,hb⟩;refine ⟨_,rfl,?_⟩;have BD:=Aside0.mk (aN (g:=Bo) (o:=.cells #[.int .u64 Bh,.slice Bt Bg.length Bu] 25 (0,0)) (bk_ AZ.out) hb);have BF:=Aside0.mk (aN (g:=Bp) (o:=.cells #[.int .u64 Bn,.slice Bw Bj.length Bz] 25 (0,0)) (bk_ Bf.out) hb);have BG:=Aside0.mk (aK hb_ hb);clear AZ;clear Bf;clear HB;have AZ:=BD;have Bf:=BF;have HB:=BG;clear BD BF BG;(try clear hb);(try clear hb2);(try clear hk);(try clear hi);have Em : FR.cell? ⟨Bp,0,none⟩ = some (.int .u64 Bn):=(ah Bf.out 0).trans rfl;have En : FR.cell? ⟨Bp,1,none⟩ = some (.slice Bw Bj.length Bz):=(ah Bf.out 1).trans rfl;have Eo:=ak Bf.out 0;have Ep:=ak Bf.out 1)|(go_at_call 4;(with_reducible refine (aU.calls k Bn _ _ Bj true _ ?Br ?Bv DU.out).mono ?_);(case Br=>repeat (first|exact (Kd.bO Cm.out HB.out)|(with_reducible refine Kd.bD ?_ _)|(with_reducible refine Kd.bR ?_ _)|(with_reducible refine Kd.bZ ?_)));(case Bv=>exact Cn.out);rintro e FT ⟨rfl,hb⟩;have BD:=Aside0.mk (aN (g:=Bo) (o:=.cells #[.int .u64 Bh,.slice Bt Bg.length Bu] 25 (0,0)) (bk_ AZ.out) hb);have BF:=Aside0.mk (aN (g:=Bp) (o:=.cells #[.int .u64 Bn,.slice Bw Bj.length Bz] 25 (0,0)) (bk_ Bf.out) hb);have BG:=Aside0.mk (aK hb_ hb);clear AZ;clear Bf;clear HB;have AZ:=BD;have Bf:=BF;have HB:=BG;clear BD BF BG;(try clear hb);(try clear hb2);(try clear hk);(try clear hi);have Er : FT.cell? ⟨Bo,0,none⟩ = some (.int .u64 Bh):=(ah AZ.out 0).trans rfl;have Es : FT.cell? ⟨Bo,1,none⟩ = some (.slice Bt Bg.length Bu):=(ah AZ.out 1).trans rfl;have Et:=ak AZ.out 0;have Eu:=ak AZ.out 1)|(go_at_call 5;(with_reducible refine (aX.calls k Bh _ _ Bg true _ ?Br ?Bv Fp.out).mono ?_);(case Br=>repeat (first|exact (Kd.bO Cg.out HB.out)|(with_reducible refine Kd.bD ?_ _)|(with_reducible refine Kd.bR ?_ _)|(with_reducible refine Kd.bZ ?_)));(case Bv=>exact Ch.out);rintro e FU ⟨rfl,hb⟩;have BD:=Aside0.mk (aN (g:=Bo) (o:=.cells #[.int .u64 Bh,.slice Bt Bg.length Bu] 25 (0,0)) (bk_ AZ.out) hb);have BF:=Aside0.mk (aN (g:=Bp) (o:=.cells #[.int .u64 Bn,.slice Bw Bj.length Bz] 25 (0,0)) (bk_ Bf.out) hb);have BG:=Aside0.mk (aK hb_ hb);clear AZ;clear Bf;clear HB;have AZ:=BD;have Bf:=BF;have HB:=BG;clear BD BF BG;(try clear hb);(try clear hb2);(try clear hk);(try clear hi);have Ew : FU.cell? ⟨Bp,0,none⟩ = some (.int .u64 Bn):=(ah Bf.out 0).trans rfl;have Ey : FU.cell? ⟨Bp,1,none⟩ = some (.slice Bw Bj.length Bz):=(ah Bf.out 1).trans rfl;have Ez:=ak Bf.out 0;have EA:=ak Bf.out 1)|(go_at_call 5;(with_reducible refine (aX.calls k Bn _ _ Bj false _ ?Br ?Bv FH.out).mono ?_);(case Br=>repeat (first|exact (Kd.bO Cm.out HB.out)|(with_reducible refine Kd.bD ?_ _)|(with_reducible refine Kd.bR ?_ _)|(with_reducible refine Kd.bZ ?_)));(case Bv=>exact Cn.out);rintro e GA ⟨rfl,hb⟩;have BD:=Aside0.mk (aN (g:=Bo) (o:=.cells #[.int .u64 Bh,.slice Bt Bg.length Bu] 25 (0,0)) (bk_ AZ.out) hb);have BF:=Aside0.mk (aN (g:=Bp) (o:=.cells #[.int .u64 Bn,.slice Bw Bj.length Bz] 25 (0,0)) (bk_ Bf.out) hb);have BG:=Aside0.mk (aK hb_ hb);clear AZ;clear Bf;clear HB;have AZ:=BD;have Bf:=BF;have HB:=BG;clear BD BF BG;(try clear hb);(try clear hb2);(try clear hk);(try clear hi)))
      go_meet
      case rel=>exact ⟨_,(true),(by first|rfl|(simp;done)|(simp [*];done)),H',⟨by first|omega|exact Nat.le_refl _⟩,⟨by (with_reducible repeat (first|apply ay|apply aG|apply aD));exact AZ.out⟩,⟨by (with_reducible repeat (first|apply ay|apply aG|apply aD));exact Bf.out⟩,⟨hb_⟩⟩
    ·replace c13:=Bool.eq_false_iff.mpr c13
     subst c13
     have H1 : (aH.j0 k a2 a3 true Bh Bg Bn Bj) = some r:=by rw [if_neg (show ¬ (false = true) by decide)] at H;exact H
     clear H
     have H:=H1
     clear H1
     have H':=Aside0.mk H
     clear H
     have FV:=BU.out
     have FW:=BX.out
     have EB : w7.cell? ⟨Bo,0,none⟩ = some (.int .u64 Bh):=(ah AZ.out 0).trans rfl
     have EC : w7.cell? ⟨Bo,1,none⟩ = some (.slice Bt Bg.length Bu):=(ah AZ.out 1).trans rfl
     have ED:=ak AZ.out 0
     have EF:=ak AZ.out 1
     go_wp2_with (first|((with_reducible refine bF (f:=4) rfl ?_);refine dN (some 11) rfl rfl Tryz.func4 (by kernel_rfl) rfl #[.agg #[.int .u64 Bh,.slice Bt Bg.length Bu]] rfl (by (try simp only [List.map_toArray,List.map_cons,List.map_nil]);first|done|rfl|(simp only [List.length_drop,List.length_take];rfl)|(simp (disch:=first|omega|(simp at *;omega)) only [dO,dG,eH];rfl)) ?_;(with_reducible refine (aU.calls k Bh _ _ Bg true _ ?Br ?Bv A8.out).mono ?_);(case Br=>repeat (first|exact (Kd.bO Cg.out HB.out)|(with_reducible refine Kd.bD ?_ _)|(with_reducible refine Kd.bR ?_ _)|(with_reducible refine Kd.bZ ?_)));(case Bv=>exact Ch.out);rintro e FX ⟨rfl,hb⟩;refine ⟨_,rfl,?_⟩;have BD:=Aside0.mk (aN (g:=Bo) (o:=.cells #[.int .u64 Bh,.slice Bt Bg.length Bu] 25 (0,0)) (bk_ AZ.out) hb);have BF:=Aside0.mk (aN (g:=Bp) (o:=.cells #[.int .u64 Bn,.slice Bw Bj.length Bz] 25 (0,0)) (bk_ Bf.out) hb);have BG:=Aside0.mk (aK hb_ hb);clear AZ;clear Bf;clear HB;have AZ:=BD;have Bf:=BF;have HB:=BG;clear BD BF BG;(try clear hb);(try clear hb2);(try clear hk);(try clear hi);have EG : FX.cell? ⟨Bp,0,none⟩ = some (.int .u64 Bn):=(ah Bf.out 0).trans rfl;have EH : FX.cell? ⟨Bp,1,none⟩ = some (.slice Bw Bj.length Bz):=(ah Bf.out 1).trans rfl;have EI:=ak Bf.out 0;have EJ:=ak Bf.out 1)|(go_at_call 4;(with_reducible refine (aU.calls k Bn _ _ Bj true _ ?Br ?Bv DU.out).mono ?_);(case Br=>repeat (first|exact (Kd.bO Cm.out HB.out)|(with_reducible refine Kd.bD ?_ _)|(with_reducible refine Kd.bR ?_ _)|(with_reducible refine Kd.bZ ?_)));(case Bv=>exact Cn.out);rintro e FY ⟨rfl,hb⟩;have BD:=Aside0.mk (aN (g:=Bo) (o:=.cells #[.int .u64 Bh,.slice Bt Bg.length Bu] 25 (0,0)) (bk_ AZ.out) hb);have BF:=Aside0.mk (aN (g:=Bp) (o:=.cells #[.int .u64 Bn,.slice Bw Bj.length Bz] 25 (0,0)) (bk_ Bf.out) hb);have BG:=Aside0.mk (aK hb_ hb);clear AZ;clear Bf;clear HB;have AZ:=BD;have Bf:=BF;have HB:=BG;clear BD BF BG;(try clear hb);(try clear hb2);(try clear hk);(try clear hi);have EK : FY.cell? ⟨Bo,0,none⟩ = some (.int .u64 Bh):=(ah AZ.out 0).trans rfl;have EL : FY.cell? ⟨Bo,1,none⟩ = some (.slice Bt Bg.length Bu):=(ah AZ.out 1).trans rfl;have EM:=ak AZ.out 0;have EN:=ak AZ.out 1)|(go_at_call 5;(with_reducible refine (aX.calls k Bh _ _ Bg false _ ?Br ?Bv Fp.out).mono ?_);(case Br=>repeat (first|exact (Kd.bO Cg.out HB.out)|(with_reducible refine Kd.bD ?_ _)|(with_reducible refine Kd.bR ?_ _)|(with_reducible refine Kd.bZ ?_)));(case Bv=>exact Ch.out);rintro e GD ⟨rfl,hb⟩;have BD:=Aside0.mk (aN (g:=Bo) (o:=.cells #[.int .u64 Bh,.slice Bt Bg.length Bu] 25 (0,0)) (bk_ AZ.out) hb);have BF:=Aside0.mk (aN (g:=Bp) (o:=.cells #[.int .u64 Bn,.slice Bw Bj.length Bz] 25 (0,0)) (bk_ Bf.out) hb);have BG:=Aside0.mk (aK hb_ hb);clear AZ;clear Bf;clear HB;have AZ:=BD;have Bf:=BF;have HB:=BG;clear BD BF BG;(try clear hb);(try clear hb2);(try clear hk);(try clear hi)))
     go_meet
     case rel=>exact ⟨_,(true),(by first|rfl|(simp;done)|(simp [*];done)),H',⟨by first|omega|exact Nat.le_refl _⟩,⟨by (with_reducible repeat (first|apply ay|apply aG|apply aD));exact AZ.out⟩,⟨by (with_reducible repeat (first|apply ay|apply aG|apply aD));exact Bf.out⟩,⟨hb_⟩⟩
   ·replace c11:=Bool.eq_false_iff.mpr c11
    subst c11
    have H1 : (aH.j0 k a2 a3 true Bh Bg Bn Bj) = some r:=by rw [if_neg (show ¬ (false = true) by decide)] at H;exact H
    clear H
    have H:=H1
    clear H1
    have H':=Aside0.mk H
    clear H
    have FZ:=BU.out
    have F3:=BX.out
    have EO : w7.cell? ⟨Bo,0,none⟩ = some (.int .u64 Bh):=(ah AZ.out 0).trans rfl
    have EP : w7.cell? ⟨Bo,1,none⟩ = some (.slice Bt Bg.length Bu):=(ah AZ.out 1).trans rfl
    have ER:=ak AZ.out 0
    have ES:=ak AZ.out 1
    go_wp2_with (first|((with_reducible refine bF (f:=4) rfl ?_);refine dN (some 11) rfl rfl Tryz.func4 (by kernel_rfl) rfl #[.agg #[.int .u64 Bh,.slice Bt Bg.length Bu]] rfl (by (try simp only [List.map_toArray,List.map_cons,List.map_nil]);first|done|rfl|(simp only [List.length_drop,List.length_take];rfl)|(simp (disch:=first|omega|(simp at *;omega)) only [dO,dG,eH];rfl)) ?_;(with_reducible refine (aU.calls k Bh _ _ Bg true _ ?Br ?Bv A8.out).mono ?_);(case Br=>repeat (first|exact (Kd.bO Cg.out HB.out)|(with_reducible refine Kd.bD ?_ _)|(with_reducible refine Kd.bR ?_ _)|(with_reducible refine Kd.bZ ?_)));(case Bv=>exact Ch.out);rintro e F4 ⟨rfl,hb⟩;refine ⟨_,rfl,?_⟩;have BD:=Aside0.mk (aN (g:=Bo) (o:=.cells #[.int .u64 Bh,.slice Bt Bg.length Bu] 25 (0,0)) (bk_ AZ.out) hb);have BF:=Aside0.mk (aN (g:=Bp) (o:=.cells #[.int .u64 Bn,.slice Bw Bj.length Bz] 25 (0,0)) (bk_ Bf.out) hb);have BG:=Aside0.mk (aK hb_ hb);clear AZ;clear Bf;clear HB;have AZ:=BD;have Bf:=BF;have HB:=BG;clear BD BF BG;(try clear hb);(try clear hb2);(try clear hk);(try clear hi);have ET : F4.cell? ⟨Bp,0,none⟩ = some (.int .u64 Bn):=(ah Bf.out 0).trans rfl;have EU : F4.cell? ⟨Bp,1,none⟩ = some (.slice Bw Bj.length Bz):=(ah Bf.out 1).trans rfl;have EW:=ak Bf.out 0;have EX:=ak Bf.out 1)|(go_at_call 4;(with_reducible refine (aU.calls k Bn _ _ Bj false _ ?Br ?Bv DU.out).mono ?_);(case Br=>repeat (first|exact (Kd.bO Cm.out HB.out)|(with_reducible refine Kd.bD ?_ _)|(with_reducible refine Kd.bR ?_ _)|(with_reducible refine Kd.bZ ?_)));(case Bv=>exact Cn.out);rintro e GI ⟨rfl,hb⟩;have BD:=Aside0.mk (aN (g:=Bo) (o:=.cells #[.int .u64 Bh,.slice Bt Bg.length Bu] 25 (0,0)) (bk_ AZ.out) hb);have BF:=Aside0.mk (aN (g:=Bp) (o:=.cells #[.int .u64 Bn,.slice Bw Bj.length Bz] 25 (0,0)) (bk_ Bf.out) hb);have BG:=Aside0.mk (aK hb_ hb);clear AZ;clear Bf;clear HB;have AZ:=BD;have Bf:=BF;have HB:=BG;clear BD BF BG;(try clear hb);(try clear hb2);(try clear hk);(try clear hi)))
    go_meet
    case rel=>exact ⟨_,(true),(by first|rfl|(simp;done)|(simp [*];done)),H',⟨by first|omega|exact Nat.le_refl _⟩,⟨by (with_reducible repeat (first|apply ay|apply aG|apply aD));exact AZ.out⟩,⟨by (with_reducible repeat (first|apply ay|apply aG|apply aD));exact Bf.out⟩,⟨hb_⟩⟩
  ·replace c9:=Bool.eq_false_iff.mpr c9
   subst c9
   have H1 : (aH.j0 k a2 a3 true Bh Bg Bn Bj) = some r:=by rw [if_neg (show ¬ (false = true) by decide)] at H;exact H
   clear H
   have H:=H1
   clear H1
   have H':=Aside0.mk H
   clear H
   have F5:=BU.out
   have F6:=BX.out
   have EY : w7.cell? ⟨Bo,0,none⟩ = some (.int .u64 Bh):=(ah AZ.out 0).trans rfl
   have EZ : w7.cell? ⟨Bo,1,none⟩ = some (.slice Bt Bg.length Bu):=(ah AZ.out 1).trans rfl
   have E5:=ak AZ.out 0
   have E8:=ak AZ.out 1
   go_wp2_with (first|((with_reducible refine bF (f:=4) rfl ?_);refine dN (some 11) rfl rfl Tryz.func4 (by kernel_rfl) rfl #[.agg #[.int .u64 Bh,.slice Bt Bg.length Bu]] rfl (by (try simp only [List.map_toArray,List.map_cons,List.map_nil]);first|done|rfl|(simp only [List.length_drop,List.length_take];rfl)|(simp (disch:=first|omega|(simp at *;omega)) only [dO,dG,eH];rfl)) ?_;(with_reducible refine (aU.calls k Bh _ _ Bg false _ ?Br ?Bv A8.out).mono ?_);(case Br=>repeat (first|exact (Kd.bO Cg.out HB.out)|(with_reducible refine Kd.bD ?_ _)|(with_reducible refine Kd.bR ?_ _)|(with_reducible refine Kd.bZ ?_)));(case Bv=>exact Ch.out);rintro e GJ ⟨rfl,hb⟩;refine ⟨_,rfl,?_⟩;have BD:=Aside0.mk (aN (g:=Bo) (o:=.cells #[.int .u64 Bh,.slice Bt Bg.length Bu] 25 (0,0)) (bk_ AZ.out) hb);have BF:=Aside0.mk (aN (g:=Bp) (o:=.cells #[.int .u64 Bn,.slice Bw Bj.length Bz] 25 (0,0)) (bk_ Bf.out) hb);have BG:=Aside0.mk (aK hb_ hb);clear AZ;clear Bf;clear HB;have AZ:=BD;have Bf:=BF;have HB:=BG;clear BD BF BG;(try clear hb);(try clear hb2);(try clear hk);(try clear hi)))
   go_meet
   case rel=>exact ⟨_,(true),(by first|rfl|(simp;done)|(simp [*];done)),H',⟨by first|omega|exact Nat.le_refl _⟩,⟨by (with_reducible repeat (first|apply ay|apply aG|apply aD));exact AZ.out⟩,⟨by (with_reducible repeat (first|apply ay|apply aG|apply aD));exact Bf.out⟩,⟨hb_⟩⟩
 case rest =>
  clear Fj
  obtain ⟨kq,CF,rfl,HA,GK,AZ,Bf,HB⟩:=hcut
  cases kq with
  | zero=>exact absurd HA.out (by simp [aH.j0])
  | succ Cr =>
   have H:=HA.out
   clear HA
   simp only [aH.j0] at H
   by_cases c49 : CF = true
   ·subst c49
    have H1 : ((bQ.f Cr).bind fun CG=>(some CG)) = some r:=by rw [if_pos rfl] at H;exact H
    clear H
    have H:=H1
    clear H1
    replace H:=Option.bind_eq_some_iff.mp H
    obtain ⟨CG,Dt,H⟩:=H
    replace H : (some CG) = some r:=H
    have Gi:=Aside0.mk Dt
    clear Dt
    obtain rfl:=Option.some.inj H
    go_wp2_with (first|((with_reducible refine bF (f:=6) rfl ?_);refine dN (some 33) rfl rfl Tryz.func6 (by kernel_rfl) rfl #[] rfl (by (try simp only [List.map_toArray,List.map_cons,List.map_nil]);first|done|rfl|(simp only [List.length_drop,List.length_take];rfl)|(simp (disch:=first|omega|(simp at *;omega)) only [dO,dG,eH];rfl)) ?_;(with_reducible refine (bQ.calls Cr  CG _ Gi.out (by first|assumption|exact GW.below hG (by first|exact HB.out|assumption|(repeat (first|(with_reducible first|exact HB.out|apply bV|apply aW|apply bB)|exact HB.out)))|exact GW.drawn hG (by first|assumption|(repeat (first|exact Drawn0.refl _|assumption|apply Drawn0.step))))).mono ?_);rintro e GL ⟨rfl,hb⟩;refine ⟨_,rfl,?_⟩;have BD:=Aside0.mk (aN (g:=Bo) (o:=.cells #[.int .u64 Bh,.slice Bt Bg.length Bu] 25 (0,0)) (bk_ AZ.out) hb);have BF:=Aside0.mk (aN (g:=Bp) (o:=.cells #[.int .u64 Bn,.slice Bw Bj.length Bz] 25 (0,0)) (bk_ Bf.out) hb);have BG:=Aside0.mk (aK hb_ hb);clear AZ;clear Bf;clear HB;have AZ:=BD;have Bf:=BF;have HB:=BG;clear BD BF BG;(try clear hb);(try clear hb2);(try clear hk);(try clear hi)))
    go_ret
    exact ⟨by first|rfl|(simp [aY,aZ] <;> rfl)|(simp [*,aY,aZ] <;> rfl),hb_⟩
   ·replace c49:=Bool.eq_false_iff.mpr c49
    subst c49
    have H1 : ((bQ.f Cr).bind fun CJ=>(if CJ = true then ((av.f Cr Bh Bg Bn Bj).bind fun Ci=>((dx.f Bh Bg).bind fun BR=>((dx.f Bn Bj).bind fun BP=>((aA.f Cr BR.1 BR.2 BP.1 BP.2).bind fun BZ=>((bq.f Cr Ci BZ).bind fun Ca=>(if Ca = true then ((bI.f a2 a3 (⟨#[120]⟩ : ByteArray)).bind fun BK=>((cB.f a2 a3 (⟨#[120]⟩ : ByteArray)).bind fun BJ=>(if BK.toList = BJ.toList then ((dF.f a2).bind fun BO=>((dI.f a2).bind fun BL=>(some (BO.toList == BL.toList)))) else (some false)))) else (some false))))))) else (some false))) = some r:=by rw [if_neg (show ¬ (false = true) by decide)] at H;exact H
    clear H
    have H:=H1
    clear H1
    replace H:=Option.bind_eq_some_iff.mp H
    obtain ⟨CJ,Du,H⟩:=H
    replace H : (if CJ = true then ((av.f Cr Bh Bg Bn Bj).bind fun Ci=>((dx.f Bh Bg).bind fun BR=>((dx.f Bn Bj).bind fun BP=>((aA.f Cr BR.1 BR.2 BP.1 BP.2).bind fun BZ=>((bq.f Cr Ci BZ).bind fun Ca=>(if Ca = true then ((bI.f a2 a3 (⟨#[120]⟩ : ByteArray)).bind fun BK=>((cB.f a2 a3 (⟨#[120]⟩ : ByteArray)).bind fun BJ=>(if BK.toList = BJ.toList then ((dF.f a2).bind fun BO=>((dI.f a2).bind fun BL=>(some (BO.toList == BL.toList)))) else (some false)))) else (some false))))))) else (some false)) = some r:=H
    have Gj:=Aside0.mk Du
    clear Du
    by_cases c53 : CJ = true
    ·subst c53
     have H1 : ((av.f Cr Bh Bg Bn Bj).bind fun Ci=>((dx.f Bh Bg).bind fun BR=>((dx.f Bn Bj).bind fun BP=>((aA.f Cr BR.1 BR.2 BP.1 BP.2).bind fun BZ=>((bq.f Cr Ci BZ).bind fun Ca=>(if Ca = true then ((bI.f a2 a3 (⟨#[120]⟩ : ByteArray)).bind fun BK=>((cB.f a2 a3 (⟨#[120]⟩ : ByteArray)).bind fun BJ=>(if BK.toList = BJ.toList then ((dF.f a2).bind fun BO=>((dI.f a2).bind fun BL=>(some (BO.toList == BL.toList)))) else (some false)))) else (some false))))))) = some r:=by rw [if_pos rfl] at H;exact H
     clear H
     have H:=H1
     clear H1
     replace H:=Option.bind_eq_some_iff.mp H
     obtain ⟨Ci,Dv,H⟩:=H
     replace H : ((dx.f Bh Bg).bind fun BR=>((dx.f Bn Bj).bind fun BP=>((aA.f Cr BR.1 BR.2 BP.1 BP.2).bind fun BZ=>((bq.f Cr Ci BZ).bind fun Ca=>(if Ca = true then ((bI.f a2 a3 (⟨#[120]⟩ : ByteArray)).bind fun BK=>((cB.f a2 a3 (⟨#[120]⟩ : ByteArray)).bind fun BJ=>(if BK.toList = BJ.toList then ((dF.f a2).bind fun BO=>((dI.f a2).bind fun BL=>(some (BO.toList == BL.toList)))) else (some false)))) else (some false)))))) = some r:=H
     have Gl:=Aside0.mk Dv
     clear Dv
     replace H:=Option.bind_eq_some_iff.mp H
     obtain ⟨⟨CQ,CS⟩,Dw,H⟩:=H
     replace H : ((dx.f Bn Bj).bind fun BP=>((aA.f Cr CQ CS BP.1 BP.2).bind fun BZ=>((bq.f Cr Ci BZ).bind fun Ca=>(if Ca = true then ((bI.f a2 a3 (⟨#[120]⟩ : ByteArray)).bind fun BK=>((cB.f a2 a3 (⟨#[120]⟩ : ByteArray)).bind fun BJ=>(if BK.toList = BJ.toList then ((dF.f a2).bind fun BO=>((dI.f a2).bind fun BL=>(some (BO.toList == BL.toList)))) else (some false)))) else (some false))))) = some r:=H
     have Gm:=Aside0.mk Dw
     clear Dw
     replace H:=Option.bind_eq_some_iff.mp H
     obtain ⟨⟨CY,CZ⟩,Dx,H⟩:=H
     replace H : ((aA.f Cr CQ CS CY CZ).bind fun BZ=>((bq.f Cr Ci BZ).bind fun Ca=>(if Ca = true then ((bI.f a2 a3 (⟨#[120]⟩ : ByteArray)).bind fun BK=>((cB.f a2 a3 (⟨#[120]⟩ : ByteArray)).bind fun BJ=>(if BK.toList = BJ.toList then ((dF.f a2).bind fun BO=>((dI.f a2).bind fun BL=>(some (BO.toList == BL.toList)))) else (some false)))) else (some false)))) = some r:=H
     have Gn:=Aside0.mk Dx
     clear Dx
     replace H:=Option.bind_eq_some_iff.mp H
     obtain ⟨BZ,Dy,H⟩:=H
     replace H : ((bq.f Cr Ci BZ).bind fun Ca=>(if Ca = true then ((bI.f a2 a3 (⟨#[120]⟩ : ByteArray)).bind fun BK=>((cB.f a2 a3 (⟨#[120]⟩ : ByteArray)).bind fun BJ=>(if BK.toList = BJ.toList then ((dF.f a2).bind fun BO=>((dI.f a2).bind fun BL=>(some (BO.toList == BL.toList)))) else (some false)))) else (some false))) = some r:=H
     have Gp:=Aside0.mk Dy
     clear Dy
     replace H:=Option.bind_eq_some_iff.mp H
     obtain ⟨Ca,Dz,H⟩:=H
     replace H : (if Ca = true then ((bI.f a2 a3 (⟨#[120]⟩ : ByteArray)).bind fun BK=>((cB.f a2 a3 (⟨#[120]⟩ : ByteArray)).bind fun BJ=>(if BK.toList = BJ.toList then ((dF.f a2).bind fun BO=>((dI.f a2).bind fun BL=>(some (BO.toList == BL.toList)))) else (some false)))) else (some false)) = some r:=H
     have Gq:=Aside0.mk Dz
     clear Dz
     by_cases c59 : Ca = true
     ·subst c59
      have H1 : ((bI.f a2 a3 (⟨#[120]⟩ : ByteArray)).bind fun BK=>((cB.f a2 a3 (⟨#[120]⟩ : ByteArray)).bind fun BJ=>(if BK.toList = BJ.toList then ((dF.f a2).bind fun BO=>((dI.f a2).bind fun BL=>(some (BO.toList == BL.toList)))) else (some false)))) = some r:=by rw [if_pos rfl] at H;exact H
      clear H
      have H:=H1
      clear H1
      replace H:=Option.bind_eq_some_iff.mp H
      obtain ⟨BK,DC,H⟩:=H
      replace H : ((cB.f a2 a3 (⟨#[120]⟩ : ByteArray)).bind fun BJ=>(if BK.toList = BJ.toList then ((dF.f a2).bind fun BO=>((dI.f a2).bind fun BL=>(some (BO.toList == BL.toList)))) else (some false))) = some r:=H
      have Gr:=Aside0.mk DC
      clear DC
      replace H:=Option.bind_eq_some_iff.mp H
      obtain ⟨BJ,DF,H⟩:=H
      replace H : (if BK.toList = BJ.toList then ((dF.f a2).bind fun BO=>((dI.f a2).bind fun BL=>(some (BO.toList == BL.toList)))) else (some false)) = some r:=H
      have Gs:=Aside0.mk DF
      clear DF
      by_cases Dj : BK.toList = BJ.toList
      ·rw [if_pos Dj] at H
       have c62b0 : (BK.toList == BJ.toList) = true:=beq_iff_eq.mpr Dj
       have c62b1 : (BK.toList != BJ.toList) = false:=bne_eq_false_iff_eq.mpr Dj
       clear Dj
       replace H:=Option.bind_eq_some_iff.mp H
       obtain ⟨BO,DI,H⟩:=H
       replace H : ((dI.f a2).bind fun BL=>(some (BO.toList == BL.toList))) = some r:=H
       have Gt:=Aside0.mk DI
       clear DI
       replace H:=Option.bind_eq_some_iff.mp H
       obtain ⟨BL,DJ,H⟩:=H
       replace H : (some (BO.toList == BL.toList)) = some r:=H
       have Gu:=Aside0.mk DJ
       clear DJ
       obtain rfl:=Option.some.inj H
       try go_wp2_with (first|((with_reducible refine cZ (N:=9) rfl ?_);(try (refine iw (by rfl) ?_;dsimp only));refine dA ?hg (N:=9) ?hd (cs:=#[.int .i64 0,.string (⟨#[]⟩ : ByteArray),.string (⟨#[]⟩ : ByteArray)]) (t:=30) ?hr ?_;(case hd=>rfl);(case hg=>rfl);(case hr=>first|(go_simp;done)|(go_simp;rfl));intro Bq hg Dh hbox hb;have BD:=Aside0.mk (aN (g:=Bo) (o:=.cells #[.int .u64 Bh,.slice Bt Bg.length Bu] 25 (0,0)) (bk_ AZ.out) hb);have BF:=Aside0.mk (aN (g:=Bp) (o:=.cells #[.int .u64 Bn,.slice Bw Bj.length Bz] 25 (0,0)) (bk_ Bf.out) hb);have BG:=Aside0.mk (aK hb_ hb);have BS:=Aside0.mk (hbox);have Ck:=Aside0.mk ((by rw [hg];exact (aM hb_) : w.heap.size ≤ Bq));have Co:=Aside0.mk ((by rw [hg];exact (aM hb_) : w.heap.size ≤ Bq));have Cq:=Aside0.mk ((by rw [hg];exact Nat.ne_of_lt (dh (g:=Bo) (o:=.cells #[.int .u64 Bh,.slice Bt Bg.length Bu] 25 (0,0)) (bk_ AZ.out)) : Bo ≠ Bq));have Cu:=Aside0.mk ((by rw [hg];exact Nat.ne_of_gt (dh (g:=Bo) (o:=.cells #[.int .u64 Bh,.slice Bt Bg.length Bu] 25 (0,0)) (bk_ AZ.out)) : Bq ≠ Bo));have F7:=Aside0.mk ((by rw [hg];exact Nat.ne_of_lt (dh (g:=Bp) (o:=.cells #[.int .u64 Bn,.slice Bw Bj.length Bz] 25 (0,0)) (bk_ Bf.out)) : Bp ≠ Bq));have F8:=Aside0.mk ((by rw [hg];exact Nat.ne_of_gt (dh (g:=Bp) (o:=.cells #[.int .u64 Bn,.slice Bw Bj.length Bz] 25 (0,0)) (bk_ Bf.out)) : Bq ≠ Bp));clear AZ;clear Bf;clear HB;have AZ:=BD;have Bf:=BF;have HB:=BG;have Bl:=BS;have Di:=Ck;have F9:=Co;have Cc:=Cq;have CO:=Cu;have Ce:=F7;have CP:=F8;clear BD BF BG BS Ck Co Cq Cu F7 F8;clear hb hbox hg;have Ga:=CO.out;have Gb:=Cc.out;have Gc:=CP.out;have Gd:=Ce.out;have E9 : Dh.cell? ⟨Bq,0,none⟩ = some (.int .i64 0):=(ah Bl.out 0).trans rfl;have Fa : Dh.cell? ⟨Bq,1,none⟩ = some (.string (⟨#[]⟩ : ByteArray)):=(ah Bl.out 1).trans rfl;have Fb : Dh.cell? ⟨Bq,2,none⟩ = some (.string (⟨#[]⟩ : ByteArray)):=(ah Bl.out 2).trans rfl;have Fe:=ak Bl.out 0;have Fg:=ak Bl.out 1;have Fh:=ak Bl.out 2))
       have BD : Aside0 ((((Dh.setCell ⟨Bq,0,none⟩ (.int .i64 a2)).setCell ⟨Bq,1,none⟩ (.string a3)).setCell ⟨Bq,2,none⟩ (.string (⟨#[120]⟩ : ByteArray))).heap[Bo]? = some (.cells #[.int .u64 Bh,.slice Bt Bg.length Bu] 25 (0,0))):=⟨by (with_reducible repeat (first|apply ay|apply aG|apply aD));refine bL ?_ Cc.out _;(with_reducible repeat (first|apply ay|apply aG|apply aD));refine bL ?_ Cc.out _;(with_reducible repeat (first|apply ay|apply aG|apply aD));refine bL ?_ Cc.out _;(with_reducible repeat (first|apply ay|apply aG|apply aD));exact AZ.out⟩
       have BF : Aside0 ((((Dh.setCell ⟨Bq,0,none⟩ (.int .i64 a2)).setCell ⟨Bq,1,none⟩ (.string a3)).setCell ⟨Bq,2,none⟩ (.string (⟨#[120]⟩ : ByteArray))).heap[Bp]? = some (.cells #[.int .u64 Bn,.slice Bw Bj.length Bz] 25 (0,0))):=⟨by (with_reducible repeat (first|apply ay|apply aG|apply aD));refine bL ?_ Ce.out _;(with_reducible repeat (first|apply ay|apply aG|apply aD));refine bL ?_ Ce.out _;(with_reducible repeat (first|apply ay|apply aG|apply aD));refine bL ?_ Ce.out _;(with_reducible repeat (first|apply ay|apply aG|apply aD));exact Bf.out⟩
       have BG : Aside0 ((((Dh.setCell ⟨Bq,0,none⟩ (.int .i64 a2)).setCell ⟨Bq,1,none⟩ (.string a3)).setCell ⟨Bq,2,none⟩ (.string (⟨#[120]⟩ : ByteArray))).heap[Bq]? = some (.cells #[.int .i64 a2,.string a3,.string (⟨#[120]⟩ : ByteArray)] 30 (0,0))):=⟨by (with_reducible repeat (first|apply ay|apply aG|apply aD));refine bN (cs:=#[.int .i64 a2,.string a3,.string (⟨#[]⟩ : ByteArray)]) ?_ 2 _ rfl;(with_reducible repeat (first|apply ay|apply aG|apply aD));refine bN (cs:=#[.int .i64 a2,.string (⟨#[]⟩ : ByteArray),.string (⟨#[]⟩ : ByteArray)]) ?_ 1 _ rfl;(with_reducible repeat (first|apply ay|apply aG|apply aD));refine bN (cs:=#[.int .i64 0,.string (⟨#[]⟩ : ByteArray),.string (⟨#[]⟩ : ByteArray)]) ?_ 0 _ rfl;(with_reducible repeat (first|apply ay|apply aG|apply aD));exact Bl.out⟩
       have BS : Aside0 (Below w.heap.size w (((Dh.setCell ⟨Bq,0,none⟩ (.int .i64 a2)).setCell ⟨Bq,1,none⟩ (.string a3)).setCell ⟨Bq,2,none⟩ (.string (⟨#[120]⟩ : ByteArray)))):=⟨hb_⟩
       generalize (((Dh.setCell ⟨Bq,0,none⟩ (.int .i64 a2)).setCell ⟨Bq,1,none⟩ (.string a3)).setCell ⟨Bq,2,none⟩ (.string (⟨#[120]⟩ : ByteArray))) = Gv at BD BF BG BS ⊢
       have AZ:=BD
       have Bf:=BF
       have Bl:=BG
       have HB:=BS
       clear BD BF BG BS
       have BD:=Aside0.mk (aG AZ.out)
       have BF:=Aside0.mk (aG Bf.out)
       have BG:=Aside0.mk (aG Bl.out)
       have BS:=Aside0.mk (bB HB.out)
       clear AZ
       clear Bf
       clear Bl
       clear HB
       have AZ:=BD
       have Bf:=BF
       have Bl:=BG
       have HB:=BS
       clear BD BF BG BS
       refine fU (n:=29) (S:=fun w'=>w'.cell? ⟨Bo,0,none⟩ = some (.int .u64 Bh) ∧ w'.cell? ⟨Bo,1,none⟩ = some (.slice Bt Bg.length Bu) ∧ w'.cell? ⟨Bp,0,none⟩ = some (.int .u64 Bn) ∧ w'.cell? ⟨Bp,1,none⟩ = some (.slice Bw Bj.length Bz) ∧ w'.cell? ⟨Bq,0,none⟩ = some (.int .i64 a2) ∧ w'.cell? ⟨Bq,1,none⟩ = some (.string a3) ∧ w'.cell? ⟨Bq,2,none⟩ = some (.string (⟨#[120]⟩ : ByteArray))) (ds:=[]) #[O,O,O,O,O,O,O,O,O,O,O,O,O,O,O,O,O,O,O,O,O,O,O,O,O,O,O,O,O] (by kernel_rfl) rfl rfl ⟨(ah AZ.out 0).trans rfl,(ah AZ.out 1).trans rfl,(ah Bf.out 0).trans rfl,(ah Bf.out 1).trans rfl,(ah Bl.out 0).trans rfl,(ah Bl.out 1).trans rfl,(ah Bl.out 2).trans rfl⟩ (fun hHeld=>?_);refine dY aH.wh aH.rD (fun HT_ HW_=>?_)
       generalize Gv.drew = GN at AZ Bf Bl HB hHeld ⊢
       refine gq (i:=0) (N:=some 37) #[I,O,O,O,O,O,O,O,O,O,O,O,O,O,O,O,O,O,O,O,O,O,O,O,O,O,O,O,O] rfl rfl (dD HT_.out (by kernel_rfl)) (by decide) (fun K hK=>?_)
       refine eX Tryz.func6 (by kernel_rfl) rfl #[] (by rfl) rfl rfl (by (try simp only [List.map_toArray,List.map_cons,List.map_nil]);first|done|rfl|(simp only [List.length_drop,List.length_take];rfl)) ?_
       with_reducible refine (bQ.calls Cr  true _ Gj.out (by first|assumption|exact GW.below hG (by first|exact HB.out|assumption|(repeat (first|(with_reducible first|exact HB.out|apply bV|apply aW|apply bB)|exact HB.out)))|exact GW.drawn hG (by first|assumption|(repeat (first|exact Drawn0.refl _|assumption|apply Drawn0.step))))).mono ?_
       rintro e GQ ⟨rfl,hb⟩
       refine ⟨_,rfl,?_⟩
       have BD:=Aside0.mk (aN (g:=Bo) (o:=.cells #[.int .u64 Bh,.slice Bt Bg.length Bu] 25 (0,0)) (bk_ AZ.out) hb)
       have BF:=Aside0.mk (aN (g:=Bp) (o:=.cells #[.int .u64 Bn,.slice Bw Bj.length Bz] 25 (0,0)) (bk_ Bf.out) hb)
       have BG:=Aside0.mk (aN (g:=Bq) (o:=.cells #[.int .i64 a2,.string a3,.string (⟨#[120]⟩ : ByteArray)] 30 (0,0)) (bk_ Bl.out) hb)
       have BS:=Aside0.mk (aK hb_ hb)
       clear AZ
       clear Bf
       clear Bl
       clear HB
       have AZ:=BD
       have Bf:=BF
       have Bl:=BG
       have HB:=BS
       clear BD BF BG BS
       refine hK.out _ _ ⟨(ah AZ.out 0).trans rfl,(ah AZ.out 1).trans rfl,(ah Bf.out 0).trans rfl,(ah Bf.out 1).trans rfl,(ah Bl.out 0).trans rfl,(ah Bl.out 1).trans rfl,(ah Bl.out 2).trans rfl⟩ (fun hHeld=>?_)
       clear hK K
       refine dW (a':=?_) ?_ ?_
       rotate_left
       ·show Act.put _ (some 37) _ = _
        simp only [Act.put,List.setIfInBounds_toArray,List.set_cons_zero,List.set_cons_succ,bJ,bM]
        rfl
       refine pu_ 1 38 #[I,I,O,O,O,O,O,O,O,O,O,O,O,O,O,O,O,O,O,O,O,O,O,O,O,O,O,O,O] HT_.out ?_
       refine ta_ 2 39 #[I,I,I,O,O,O,O,O,O,O,O,O,O,O,O,O,O,O,O,O,O,O,O,O,O,O,O,O,O] HT_.out HW_.out hHeld ?_
       refine ta_ 3 40 #[I,I,I,I,O,O,O,O,O,O,O,O,O,O,O,O,O,O,O,O,O,O,O,O,O,O,O,O,O] HT_.out HW_.out hHeld ?_
       refine ta_ 5 42 #[I,I,I,I,O,I,O,O,O,O,O,O,O,O,O,O,O,O,O,O,O,O,O,O,O,O,O,O,O] HT_.out HW_.out hHeld ?_
       refine ta_ 7 44 #[I,I,I,I,O,I,O,I,O,O,O,O,O,O,O,O,O,O,O,O,O,O,O,O,O,O,O,O,O] HT_.out HW_.out hHeld ?_
       refine gq (i:=4) (N:=some 41) #[I,I,I,I,I,I,O,I,O,O,O,O,O,O,O,O,O,O,O,O,O,O,O,O,O,O,O,O,O] rfl rfl (dD HT_.out (by kernel_rfl)) (by decide) (fun K hK=>?_)
       refine eX Tryz.func8 (by kernel_rfl) rfl #[.agg #[.int .u64 Bh,.slice Bt Bg.length Bu],.agg #[.int .u64 Bn,.slice Bw Bj.length Bz]] (by rfl) rfl rfl (by (try simp only [List.map_toArray,List.map_cons,List.map_nil]);first|done|rfl|(simp only [List.length_drop,List.length_take];rfl)) ?_
       with_reducible refine (av.calls Cr Bh (fun k_=>k_ < w.heap.size) _ _ Bg Bn (fun k_=>k_ < w.heap.size) _ _ Bj Ci _ ?Br ?Bv Gl.out).mono ?_
       (case Br=>exact Kd.iV Ch.out (Kd.jB (Kd.C_F mD Cg.out) hb_))
       (case Bv=>exact Kd.iV Cn.out (Kd.jB (Kd.C_F mD Cm.out) hb_))
       rintro e GR ⟨DK,rfl,ho0,hb⟩
       refine ⟨_,rfl,?_⟩
       have BD:=Aside0.mk (Kd.iD (Kd.yM (Kd.gW (ok':=fun k_=>True) ho0 (fun _ hk_=>trivial)) (g:=Bq) (o:=.cells #[.int .i64 a2,.string a3,.string (⟨#[120]⟩ : ByteArray)] 30 (0,0)) (bk_ Bl.out)) (aM hb_))
       have BF:=Aside0.mk (aN (g:=Bo) (o:=.cells #[.int .u64 Bh,.slice Bt Bg.length Bu] 25 (0,0)) (bk_ AZ.out) hb)
       have BG:=Aside0.mk (aN (g:=Bp) (o:=.cells #[.int .u64 Bn,.slice Bw Bj.length Bz] 25 (0,0)) (bk_ Bf.out) hb)
       have BS:=Aside0.mk (aN (g:=Bq) (o:=.cells #[.int .i64 a2,.string a3,.string (⟨#[120]⟩ : ByteArray)] 30 (0,0)) (bk_ Bl.out) hb)
       have Ck:=Aside0.mk (aK hb_ hb)
       clear AZ
       clear Bf
       clear Bl
       clear HB
       have BH:=BD
       have AZ:=BF
       have Bf:=BG
       have Bl:=BS
       have HB:=Ck
       clear BD BF BG BS Ck
       refine hK.out _ _ ⟨(ah AZ.out 0).trans rfl,(ah AZ.out 1).trans rfl,(ah Bf.out 0).trans rfl,(ah Bf.out 1).trans rfl,(ah Bl.out 0).trans rfl,(ah Bl.out 1).trans rfl,(ah Bl.out 2).trans rfl⟩ (fun hHeld=>?_)
       clear hK K
       refine dW (a':=?_) ?_ ?_
       rotate_left
       ·show Act.put _ (some 41) _ = _
        simp only [Act.put,List.setIfInBounds_toArray,List.set_cons_zero,List.set_cons_succ,bJ,bM]
        rfl
       refine gq (i:=6) (N:=some 43) #[I,I,I,I,I,I,I,I,O,O,O,O,O,O,O,O,O,O,O,O,O,O,O,O,O,O,O,O,O] rfl rfl (dD HT_.out (by kernel_rfl)) (by decide) (fun K hK=>?_)
       refine eX Tryz.func10 (by kernel_rfl) rfl #[.agg #[.int .u64 Bh,.slice Bt Bg.length Bu]] (by rfl) rfl rfl (by (try simp only [List.map_toArray,List.map_cons,List.map_nil]);first|done|rfl|(simp only [List.length_drop,List.length_take];rfl)) ?_
       with_reducible refine (dx.calls Bh (fun k_=>k_ < w.heap.size) _ _ Bg CQ CS _ ?Br Gm.out).mono ?_
       (case Br=>exact Kd.iV Ch.out (Kd.jB (Kd.C_F mD Cg.out) hb_))
       rintro e GU ⟨Gw,rfl,ho0,hb⟩
       refine ⟨_,rfl,?_⟩
       have BD:=Aside0.mk (Kd.fu (kr_ BH.out) hb)
       have BF:=Aside0.mk (Kd.qE (Kd.eG (ok':=fun k_=>some k_ ≠ (DK : Value).ownBlock ∧ k_ ≠ Bo ∧ k_ ≠ Bp ∧ k_ ≠ Bq) ho0 (fun k_ hk_=>⟨Or.elim hk_ (fun hs_=>fun e_=>Nat.not_le.2 hs_ (Kd.jo BH.out k_ e_.symm)) (fun hn_=>(Kd.fresh' (Kd.rX (kr_ BH.out)) k_ hn_)),Or.elim hk_ (fun hs_=>fun e_=>Nat.not_le.2 hs_ (by rw [e_];exact Dc.out)) (fun hn_=>(Kd.iq (g:=Bo) (o:=.cells #[.int .u64 Bh,.slice Bt Bg.length Bu] 25 (0,0)) (bk_ AZ.out) k_ hn_)),Or.elim hk_ (fun hs_=>fun e_=>Nat.not_le.2 hs_ (by rw [e_];exact Df.out)) (fun hn_=>(Kd.iq (g:=Bp) (o:=.cells #[.int .u64 Bn,.slice Bw Bj.length Bz] 25 (0,0)) (bk_ Bf.out) k_ hn_)),Or.elim hk_ (fun hs_=>fun e_=>Nat.not_le.2 hs_ (by rw [e_];exact Di.out)) (fun hn_=>(Kd.iq (g:=Bq) (o:=.cells #[.int .i64 a2,.string a3,.string (⟨#[120]⟩ : ByteArray)] 30 (0,0)) (bk_ Bl.out) k_ hn_))⟩)) (aM hb_))
       have BG:=Aside0.mk (aN (g:=Bo) (o:=.cells #[.int .u64 Bh,.slice Bt Bg.length Bu] 25 (0,0)) (bk_ AZ.out) hb)
       have BS:=Aside0.mk (aN (g:=Bp) (o:=.cells #[.int .u64 Bn,.slice Bw Bj.length Bz] 25 (0,0)) (bk_ Bf.out) hb)
       have Ck:=Aside0.mk (aN (g:=Bq) (o:=.cells #[.int .i64 a2,.string a3,.string (⟨#[120]⟩ : ByteArray)] 30 (0,0)) (bk_ Bl.out) hb)
       have Co:=Aside0.mk (aK hb_ hb)
       clear BH
       clear AZ
       clear Bf
       clear Bl
       clear HB
       have BH:=BD
       have BI:=BF
       have AZ:=BG
       have Bf:=BS
       have Bl:=Ck
       have HB:=Co
       clear BD BF BG BS Ck Co
       refine hK.out _ _ ⟨(ah AZ.out 0).trans rfl,(ah AZ.out 1).trans rfl,(ah Bf.out 0).trans rfl,(ah Bf.out 1).trans rfl,(ah Bl.out 0).trans rfl,(ah Bl.out 1).trans rfl,(ah Bl.out 2).trans rfl⟩ (fun hHeld=>?_)
       clear hK K
       refine dW (a':=?_) ?_ ?_
       rotate_left
       ·show Act.put _ (some 43) _ = _
        simp only [Act.put,List.setIfInBounds_toArray,List.set_cons_zero,List.set_cons_succ,bJ,bM]
        rfl
       refine gq (i:=8) (N:=some 45) #[I,I,I,I,I,I,I,I,I,O,O,O,O,O,O,O,O,O,O,O,O,O,O,O,O,O,O,O,O] rfl rfl (dD HT_.out (by kernel_rfl)) (by decide) (fun K hK=>?_)
       refine eX Tryz.func10 (by kernel_rfl) rfl #[.agg #[.int .u64 Bn,.slice Bw Bj.length Bz]] (by rfl) rfl rfl (by (try simp only [List.map_toArray,List.map_cons,List.map_nil]);first|done|rfl|(simp only [List.length_drop,List.length_take];rfl)) ?_
       with_reducible refine (dx.calls Bn (fun k_=>k_ < w.heap.size) _ _ Bj CY CZ _ ?Br Gn.out).mono ?_
       (case Br=>exact Kd.iV Cn.out (Kd.jB (Kd.C_F mD Cm.out) hb_))
       rintro e GV ⟨Gx,rfl,ho0,hb⟩
       refine ⟨_,rfl,?_⟩
       have BD:=Aside0.mk (Kd.fu (kr_ BH.out) hb)
       have BF:=Aside0.mk (Kd.eB (kv_ BI.out) hb)
       have BG:=Aside0.mk (Kd.qE (Kd.eG (ok':=fun k_=>some k_ ≠ (DK : Value).ownBlock ∧ k_ ≠ Bo ∧ k_ ≠ Bp ∧ k_ ≠ Bq) ho0 (fun k_ hk_=>⟨Or.elim hk_ (fun hs_=>fun e_=>Nat.not_le.2 hs_ (Kd.jo BH.out k_ e_.symm)) (fun hn_=>(Kd.fresh' (Kd.rX (kr_ BH.out)) k_ hn_)),Or.elim hk_ (fun hs_=>fun e_=>Nat.not_le.2 hs_ (by rw [e_];exact Dc.out)) (fun hn_=>(Kd.iq (g:=Bo) (o:=.cells #[.int .u64 Bh,.slice Bt Bg.length Bu] 25 (0,0)) (bk_ AZ.out) k_ hn_)),Or.elim hk_ (fun hs_=>fun e_=>Nat.not_le.2 hs_ (by rw [e_];exact Df.out)) (fun hn_=>(Kd.iq (g:=Bp) (o:=.cells #[.int .u64 Bn,.slice Bw Bj.length Bz] 25 (0,0)) (bk_ Bf.out) k_ hn_)),Or.elim hk_ (fun hs_=>fun e_=>Nat.not_le.2 hs_ (by rw [e_];exact Di.out)) (fun hn_=>(Kd.iq (g:=Bq) (o:=.cells #[.int .i64 a2,.string a3,.string (⟨#[120]⟩ : ByteArray)] 30 (0,0)) (bk_ Bl.out) k_ hn_))⟩)) (aM hb_))
       have BS:=Aside0.mk (aN (g:=Bo) (o:=.cells #[.int .u64 Bh,.slice Bt Bg.length Bu] 25 (0,0)) (bk_ AZ.out) hb)
       have Ck:=Aside0.mk (aN (g:=Bp) (o:=.cells #[.int .u64 Bn,.slice Bw Bj.length Bz] 25 (0,0)) (bk_ Bf.out) hb)
       have Co:=Aside0.mk (aN (g:=Bq) (o:=.cells #[.int .i64 a2,.string a3,.string (⟨#[120]⟩ : ByteArray)] 30 (0,0)) (bk_ Bl.out) hb)
       have Cq:=Aside0.mk (aK hb_ hb)
       clear BH
       clear BI
       clear AZ
       clear Bf
       clear Bl
       clear HB
       have BH:=BD
       have BI:=BF
       have BN:=BG
       have AZ:=BS
       have Bf:=Ck
       have Bl:=Co
       have HB:=Cq
       clear BD BF BG BS Ck Co Cq
       obtain ⟨Fq,Fu,DL⟩:=Kd.gG BI.out
       (first|subst DL|(injection DL with CU Dk CV;have Dl:=CU.symm;have Dm:=CV.symm;clear CU Dk CV;subst Dl;subst Dm))
       obtain ⟨Fv,Fw,DN⟩:=Kd.gG BN.out
       (first|subst DN|(injection DN with CU Dk CV;have Dl:=CU.symm;have Dm:=CV.symm;clear CU Dk CV;subst Dl;subst Dm))
       refine hK.out _ _ ⟨(ah AZ.out 0).trans rfl,(ah AZ.out 1).trans rfl,(ah Bf.out 0).trans rfl,(ah Bf.out 1).trans rfl,(ah Bl.out 0).trans rfl,(ah Bl.out 1).trans rfl,(ah Bl.out 2).trans rfl⟩ (fun hHeld=>?_)
       clear hK K
       refine dW (a':=?_) ?_ ?_
       rotate_left
       ·show Act.put _ (some 45) _ = _
        simp only [Act.put,List.setIfInBounds_toArray,List.set_cons_zero,List.set_cons_succ,bJ,bM]
        rfl
       refine gq (i:=9) (N:=some 46) #[I,I,I,I,I,I,I,I,I,I,O,O,O,O,O,O,O,O,O,O,O,O,O,O,O,O,O,O,O] rfl rfl (dD HT_.out (by kernel_rfl)) (by decide) (fun K hK=>?_)
       refine eX Tryz.func9 (by kernel_rfl) rfl #[.agg #[.int .u64 CQ,.slice Fq CS.length Fu],.agg #[.int .u64 CY,.slice Fv CZ.length Fw]] (by rfl) rfl rfl (by (try simp only [List.map_toArray,List.map_cons,List.map_nil]);first|done|rfl|(simp only [List.length_drop,List.length_take];rfl)) ?_
       with_reducible refine (aA.calls Cr CQ _ _ CS CY _ _ CZ BZ _ ?Br ?Bv ?CW ?CX Gp.out).mono ?_
       (case Br=>repeat (first|exact (Kd.dJ BI.out).2.2|(with_reducible refine Kd.bD ?_ _)|(with_reducible refine Kd.bR ?_ _)|(with_reducible refine Kd.bZ ?_)))
       (case Bv=>exact (Kd.dJ BI.out).2.1)
       (case CW=>repeat (first|exact (Kd.dJ BN.out).2.2|(with_reducible refine Kd.bD ?_ _)|(with_reducible refine Kd.bR ?_ _)|(with_reducible refine Kd.bZ ?_)))
       (case CX=>exact (Kd.dJ BN.out).2.1)
       rintro e GX ⟨Gy,rfl,ho0,hb⟩
       refine ⟨_,rfl,?_⟩
       have BD:=Aside0.mk (Kd.fu (kr_ BH.out) hb)
       have BF:=Aside0.mk (Kd.jl (kv_ BI.out) (Kd.jo ho0) hb)
       have BG:=Aside0.mk (Kd.jl (kv_ BN.out) (Kd.jo ho0) hb)
       have BS:=Aside0.mk (Kd.iD ho0 (aM hb_))
       have Ck:=Aside0.mk (aN (g:=Bo) (o:=.cells #[.int .u64 Bh,.slice Bt Bg.length Bu] 25 (0,0)) (bk_ AZ.out) hb)
       have Co:=Aside0.mk (aN (g:=Bp) (o:=.cells #[.int .u64 Bn,.slice Bw Bj.length Bz] 25 (0,0)) (bk_ Bf.out) hb)
       have Cq:=Aside0.mk (aN (g:=Bq) (o:=.cells #[.int .i64 a2,.string a3,.string (⟨#[120]⟩ : ByteArray)] 30 (0,0)) (bk_ Bl.out) hb)
       have Cu:=Aside0.mk (aK hb_ hb)
       clear BH
       clear BI
       clear BN
       clear AZ
       clear Bf
       clear Bl
       clear HB
       have BH:=BD
       have BI:=BF
       have BN:=BG
       have BQ:=BS
       have AZ:=Ck
       have Bf:=Co
       have Bl:=Cq
       have HB:=Cu
       clear BD BF BG BS Ck Co Cq Cu
       obtain ⟨Fx,Fy,DR⟩:=Kd.iE BH.out
       (first|subst DR|(injection DR with CU Dk CV;have Dl:=CU.symm;have Dm:=CV.symm;clear CU Dk CV;subst Dl;subst Dm))
       obtain ⟨Fz,FB,DT⟩:=Kd.iE BQ.out
       (first|subst DT|(injection DT with CU Dk CV;have Dl:=CU.symm;have Dm:=CV.symm;clear CU Dk CV;subst Dl;subst Dm))
       refine hK.out _ _ ⟨(ah AZ.out 0).trans rfl,(ah AZ.out 1).trans rfl,(ah Bf.out 0).trans rfl,(ah Bf.out 1).trans rfl,(ah Bl.out 0).trans rfl,(ah Bl.out 1).trans rfl,(ah Bl.out 2).trans rfl⟩ (fun hHeld=>?_)
       clear hK K
       refine dW (a':=?_) ?_ ?_
       rotate_left
       ·show Act.put _ (some 46) _ = _
        simp only [Act.put,List.setIfInBounds_toArray,List.set_cons_zero,List.set_cons_succ,bJ,bM]
        rfl
       refine gq (i:=10) (N:=some 47) #[I,I,I,I,I,I,I,I,I,I,I,O,O,O,O,O,O,O,O,O,O,O,O,O,O,O,O,O,O] rfl rfl (dD HT_.out (by kernel_rfl)) (by decide) (fun K hK=>?_)
       refine eX Tryz.func7 (by kernel_rfl) rfl #[.slice Fx Ci.length Fy,.slice Fz BZ.length FB] (by rfl) rfl rfl (by (try simp only [List.map_toArray,List.map_cons,List.map_nil]);first|done|rfl|(simp only [List.length_drop,List.length_take];rfl)) ?_
       with_reducible refine (bq.calls Cr _ _ Ci _ _ BZ true _ ?Br ?Bv ?CW ?CX Gq.out).mono ?_
       (case Br=>repeat (first|exact (Kd.fI BH.out).2.2|(with_reducible refine Kd.bD ?_ _)|(with_reducible refine Kd.bR ?_ _)|(with_reducible refine Kd.bZ ?_)))
       (case Bv=>exact (Kd.fI BH.out).2.1)
       (case CW=>repeat (first|exact (Kd.fI BQ.out).2.2|(with_reducible refine Kd.bD ?_ _)|(with_reducible refine Kd.bR ?_ _)|(with_reducible refine Kd.bZ ?_)))
       (case CX=>exact (Kd.fI BQ.out).2.1)
       rintro e w' ⟨rfl,⟨nd,rfl⟩⟩
       refine ⟨_,rfl,?_⟩
       refine hK.out _ _ ⟨(ah AZ.out 0).trans rfl,(ah AZ.out 1).trans rfl,(ah Bf.out 0).trans rfl,(ah Bf.out 1).trans rfl,(ah Bl.out 0).trans rfl,(ah Bl.out 1).trans rfl,(ah Bl.out 2).trans rfl⟩ (fun hHeld=>?_)
       clear hK K
       refine dW (a':=?_) ?_ ?_
       rotate_left
       ·show Act.put _ (some 47) _ = _
        simp only [Act.put,List.setIfInBounds_toArray,List.set_cons_zero,List.set_cons_succ,bJ,bM]
        rfl
       refine pu_ 11 48 #[I,I,I,I,I,I,I,I,I,I,I,I,O,O,O,O,O,O,O,O,O,O,O,O,O,O,O,O,O] HT_.out ?_
       refine pu_ 12 49 #[I,I,I,I,I,I,I,I,I,I,I,I,I,O,O,O,O,O,O,O,O,O,O,O,O,O,O,O,O] HT_.out ?_
       refine pu_ 15 52 #[I,I,I,I,I,I,I,I,I,I,I,I,I,O,O,I,O,O,O,O,O,O,O,O,O,O,O,O,O] HT_.out ?_
       refine pu_ 16 53 #[I,I,I,I,I,I,I,I,I,I,I,I,I,O,O,I,I,O,O,O,O,O,O,O,O,O,O,O,O] HT_.out ?_
       refine pu_ 17 54 #[I,I,I,I,I,I,I,I,I,I,I,I,I,O,O,I,I,I,O,O,O,O,O,O,O,O,O,O,O] HT_.out ?_
       refine ta_ 13 50 #[I,I,I,I,I,I,I,I,I,I,I,I,I,I,O,I,I,I,O,O,O,O,O,O,O,O,O,O,O] HT_.out HW_.out hHeld ?_
       refine gq (i:=14) (N:=some 51) #[I,I,I,I,I,I,I,I,I,I,I,I,I,I,I,I,I,I,O,O,O,O,O,O,O,O,O,O,O] rfl rfl (dD HT_.out (by kernel_rfl)) (by decide) (fun K hK=>?_)
       refine eX Tryz.func11 (by kernel_rfl) rfl #[.agg #[.int .i64 a2,.string a3,.string (⟨#[120]⟩ : ByteArray)]] (by rfl) rfl rfl (by (try simp only [List.map_toArray,List.map_cons,List.map_nil]);first|done|rfl|(simp only [List.length_drop,List.length_take];rfl)) ?_
       with_reducible refine (bI.calls a2 a3 (⟨#[120]⟩ : ByteArray) BK _ Gr.out).mono ?_
       rintro e GY ⟨rfl,hb⟩
       refine ⟨_,rfl,?_⟩
       have BD:=Aside0.mk (Kd.fu (kr_ BH.out) hb)
       have BF:=Aside0.mk (Kd.eB (kv_ BI.out) hb)
       have BG:=Aside0.mk (Kd.eB (kv_ BN.out) hb)
       have BS:=Aside0.mk (Kd.fu (kr_ BQ.out) hb)
       have Ck:=Aside0.mk (aN (g:=Bo) (o:=.cells #[.int .u64 Bh,.slice Bt Bg.length Bu] 25 (0,0)) (bk_ AZ.out) hb)
       have Co:=Aside0.mk (aN (g:=Bp) (o:=.cells #[.int .u64 Bn,.slice Bw Bj.length Bz] 25 (0,0)) (bk_ Bf.out) hb)
       have Cq:=Aside0.mk (aN (g:=Bq) (o:=.cells #[.int .i64 a2,.string a3,.string (⟨#[120]⟩ : ByteArray)] 30 (0,0)) (bk_ Bl.out) hb)
       have Cu:=Aside0.mk (aK hb_ hb)
       clear BH
       clear BI
       clear BN
       clear BQ
       clear AZ
       clear Bf
       clear Bl
       clear HB
       have BH:=BD
       have BI:=BF
       have BN:=BG
       have BQ:=BS
       have AZ:=Ck
       have Bf:=Co
       have Bl:=Cq
       have HB:=Cu
       clear BD BF BG BS Ck Co Cq Cu
       refine hK.out _ _ ⟨(ah AZ.out 0).trans rfl,(ah AZ.out 1).trans rfl,(ah Bf.out 0).trans rfl,(ah Bf.out 1).trans rfl,(ah Bl.out 0).trans rfl,(ah Bl.out 1).trans rfl,(ah Bl.out 2).trans rfl⟩ (fun hHeld=>?_)
       clear hK K
       refine dW (a':=?_) ?_ ?_
       rotate_left
       ·show Act.put _ (some 51) _ = _
        simp only [Act.put,List.setIfInBounds_toArray,List.set_cons_zero,List.set_cons_succ,bJ,bM]
        rfl
       refine gq (i:=18) (N:=some 55) #[I,I,I,I,I,I,I,I,I,I,I,I,I,I,I,I,I,I,I,O,O,O,O,O,O,O,O,O,O] rfl rfl (dD HT_.out (by kernel_rfl)) (by decide) (fun K hK=>?_)
       refine eX Tryz.func12 (by kernel_rfl) rfl #[.agg #[.int .i64 a2,.string a3,.string (⟨#[120]⟩ : ByteArray)]] (by rfl) rfl rfl (by (try simp only [List.map_toArray,List.map_cons,List.map_nil]);first|done|rfl|(simp only [List.length_drop,List.length_take];rfl)) ?_
       with_reducible refine (cB.calls a2 a3 (⟨#[120]⟩ : ByteArray) BJ _ Gs.out).mono ?_
       rintro e GZ ⟨rfl,hb⟩
       refine ⟨_,rfl,?_⟩
       have BD:=Aside0.mk (Kd.fu (kr_ BH.out) hb)
       have BF:=Aside0.mk (Kd.eB (kv_ BI.out) hb)
       have BG:=Aside0.mk (Kd.eB (kv_ BN.out) hb)
       have BS:=Aside0.mk (Kd.fu (kr_ BQ.out) hb)
       have Ck:=Aside0.mk (aN (g:=Bo) (o:=.cells #[.int .u64 Bh,.slice Bt Bg.length Bu] 25 (0,0)) (bk_ AZ.out) hb)
       have Co:=Aside0.mk (aN (g:=Bp) (o:=.cells #[.int .u64 Bn,.slice Bw Bj.length Bz] 25 (0,0)) (bk_ Bf.out) hb)
       have Cq:=Aside0.mk (aN (g:=Bq) (o:=.cells #[.int .i64 a2,.string a3,.string (⟨#[120]⟩ : ByteArray)] 30 (0,0)) (bk_ Bl.out) hb)
       have Cu:=Aside0.mk (aK hb_ hb)
       clear BH
       clear BI
       clear BN
       clear BQ
       clear AZ
       clear Bf
       clear Bl
       clear HB
       have BH:=BD
       have BI:=BF
       have BN:=BG
       have BQ:=BS
       have AZ:=Ck
       have Bf:=Co
       have Bl:=Cq
       have HB:=Cu
       clear BD BF BG BS Ck Co Cq Cu
       refine hK.out _ _ ⟨(ah AZ.out 0).trans rfl,(ah AZ.out 1).trans rfl,(ah Bf.out 0).trans rfl,(ah Bf.out 1).trans rfl,(ah Bl.out 0).trans rfl,(ah Bl.out 1).trans rfl,(ah Bl.out 2).trans rfl⟩ (fun hHeld=>?_)
       clear hK K
       refine dW (a':=?_) ?_ ?_
       rotate_left
       ·show Act.put _ (some 55) _ = _
        simp only [Act.put,List.setIfInBounds_toArray,List.set_cons_zero,List.set_cons_succ,bJ,bM]
        rfl
       refine pu_ 19 56 #[I,I,I,I,I,I,I,I,I,I,I,I,I,I,I,I,I,I,I,I,O,O,O,O,O,O,O,O,O] HT_.out ?_
       refine pu_ 20 57 #[I,I,I,I,I,I,I,I,I,I,I,I,I,I,I,I,I,I,I,I,I,O,O,O,O,O,O,O,O] HT_.out ?_
       refine pu_ 21 58 #[I,I,I,I,I,I,I,I,I,I,I,I,I,I,I,I,I,I,I,I,I,I,O,O,O,O,O,O,O] HT_.out ?_
       refine pu_ 22 59 #[I,I,I,I,I,I,I,I,I,I,I,I,I,I,I,I,I,I,I,I,I,I,I,O,O,O,O,O,O] HT_.out ?_
       refine pu_ 24 61 #[I,I,I,I,I,I,I,I,I,I,I,I,I,I,I,I,I,I,I,I,I,I,I,O,I,O,O,O,O] HT_.out ?_
       refine gq (i:=23) (N:=some 60) #[I,I,I,I,I,I,I,I,I,I,I,I,I,I,I,I,I,I,I,I,I,I,I,I,I,O,O,O,O] rfl rfl (dD HT_.out (by kernel_rfl)) (by decide) (fun K hK=>?_)
       refine eX Tryz.func13 (by kernel_rfl) rfl #[.int .i64 a2] (by rfl) rfl rfl (by (try simp only [List.map_toArray,List.map_cons,List.map_nil]);first|done|rfl|(simp only [List.length_drop,List.length_take];rfl)) ?_
       with_reducible refine (dF.calls a2 BO _ Gt.out).mono ?_
       rintro e G6 ⟨rfl,hb⟩
       refine ⟨_,rfl,?_⟩
       have BD:=Aside0.mk (Kd.fu (kr_ BH.out) hb)
       have BF:=Aside0.mk (Kd.eB (kv_ BI.out) hb)
       have BG:=Aside0.mk (Kd.eB (kv_ BN.out) hb)
       have BS:=Aside0.mk (Kd.fu (kr_ BQ.out) hb)
       have Ck:=Aside0.mk (aN (g:=Bo) (o:=.cells #[.int .u64 Bh,.slice Bt Bg.length Bu] 25 (0,0)) (bk_ AZ.out) hb)
       have Co:=Aside0.mk (aN (g:=Bp) (o:=.cells #[.int .u64 Bn,.slice Bw Bj.length Bz] 25 (0,0)) (bk_ Bf.out) hb)
       have Cq:=Aside0.mk (aN (g:=Bq) (o:=.cells #[.int .i64 a2,.string a3,.string (⟨#[120]⟩ : ByteArray)] 30 (0,0)) (bk_ Bl.out) hb)
       have Cu:=Aside0.mk (aK hb_ hb)
       clear BH
       clear BI
       clear BN
       clear BQ
       clear AZ
       clear Bf
       clear Bl
       clear HB
       have BH:=BD
       have BI:=BF
       have BN:=BG
       have BQ:=BS
       have AZ:=Ck
       have Bf:=Co
       have Bl:=Cq
       have HB:=Cu
       clear BD BF BG BS Ck Co Cq Cu
       refine hK.out _ _ ⟨(ah AZ.out 0).trans rfl,(ah AZ.out 1).trans rfl,(ah Bf.out 0).trans rfl,(ah Bf.out 1).trans rfl,(ah Bl.out 0).trans rfl,(ah Bl.out 1).trans rfl,(ah Bl.out 2).trans rfl⟩ (fun hHeld=>?_)
       clear hK K
       refine dW (a':=?_) ?_ ?_
       rotate_left
       ·show Act.put _ (some 60) _ = _
        simp only [Act.put,List.setIfInBounds_toArray,List.set_cons_zero,List.set_cons_succ,bJ,bM]
        rfl
       refine gq (i:=25) (N:=some 62) #[I,I,I,I,I,I,I,I,I,I,I,I,I,I,I,I,I,I,I,I,I,I,I,I,I,I,O,O,O] rfl rfl (dD HT_.out (by kernel_rfl)) (by decide) (fun K hK=>?_)
       refine eX Tryz.func14 (by kernel_rfl) rfl #[.int .i64 a2] (by rfl) rfl rfl (by (try simp only [List.map_toArray,List.map_cons,List.map_nil]);first|done|rfl|(simp only [List.length_drop,List.length_take];rfl)) ?_
       with_reducible refine (dI.calls a2 BL _ Gu.out).mono ?_
       rintro e G7 ⟨rfl,hb⟩
       refine ⟨_,rfl,?_⟩
       have BD:=Aside0.mk (Kd.fu (kr_ BH.out) hb)
       have BF:=Aside0.mk (Kd.eB (kv_ BI.out) hb)
       have BG:=Aside0.mk (Kd.eB (kv_ BN.out) hb)
       have BS:=Aside0.mk (Kd.fu (kr_ BQ.out) hb)
       have Ck:=Aside0.mk (aN (g:=Bo) (o:=.cells #[.int .u64 Bh,.slice Bt Bg.length Bu] 25 (0,0)) (bk_ AZ.out) hb)
       have Co:=Aside0.mk (aN (g:=Bp) (o:=.cells #[.int .u64 Bn,.slice Bw Bj.length Bz] 25 (0,0)) (bk_ Bf.out) hb)
       have Cq:=Aside0.mk (aN (g:=Bq) (o:=.cells #[.int .i64 a2,.string a3,.string (⟨#[120]⟩ : ByteArray)] 30 (0,0)) (bk_ Bl.out) hb)
       have Cu:=Aside0.mk (aK hb_ hb)
       clear BH
       clear BI
       clear BN
       clear BQ
       clear AZ
       clear Bf
       clear Bl
       clear HB
       have BH:=BD
       have BI:=BF
       have BN:=BG
       have BQ:=BS
       have AZ:=Ck
       have Bf:=Co
       have Bl:=Cq
       have HB:=Cu
       clear BD BF BG BS Ck Co Cq Cu
       refine hK.out _ _ ⟨(ah AZ.out 0).trans rfl,(ah AZ.out 1).trans rfl,(ah Bf.out 0).trans rfl,(ah Bf.out 1).trans rfl,(ah Bl.out 0).trans rfl,(ah Bl.out 1).trans rfl,(ah Bl.out 2).trans rfl⟩ (fun hHeld=>?_)
       clear hK K
       refine dW (a':=?_) ?_ ?_
       rotate_left
       ·show Act.put _ (some 62) _ = _
        simp only [Act.put,List.setIfInBounds_toArray,List.set_cons_zero,List.set_cons_succ,bJ,bM]
        rfl
       refine pu_ 26 63 #[I,I,I,I,I,I,I,I,I,I,I,I,I,I,I,I,I,I,I,I,I,I,I,I,I,I,I,O,O] HT_.out ?_
       refine pu_ 27 64 #[I,I,I,I,I,I,I,I,I,I,I,I,I,I,I,I,I,I,I,I,I,I,I,I,I,I,I,I,O] HT_.out ?_
       refine pu_ 28 8 #[I,I,I,I,I,I,I,I,I,I,I,I,I,I,I,I,I,I,I,I,I,I,I,I,I,I,I,I,I] HT_.out ?_
       refine gP (fF HT_.out (by kernel_rfl)) ?_
       try go_wp2
       go_ret
       exact ⟨by first|rfl|(simp [aY,aZ] <;> rfl)|(simp [*,aY,aZ] <;> rfl),hb_⟩
      ·rw [if_neg Dj] at H
       have c62b0 : (BK.toList == BJ.toList) = false:=beq_eq_false_iff_ne.mpr Dj
       have c62b1 : (BK.toList != BJ.toList) = true:=bne_iff_ne.mpr Dj
       exact absurd ((Option.some.inj H).trans HTr.out) (by decide)
     ·replace c59:=Bool.eq_false_iff.mpr c59
      subst c59
      have H1 : (some false) = some r:=by rw [if_neg (show ¬ (false = true) by decide)] at H;exact H
      clear H
      have H:=H1
      clear H1
      exact absurd ((Option.some.inj H).trans HTr.out) (by decide)
    ·replace c53:=Bool.eq_false_iff.mpr c53
     subst c53
     have H1 : (some false) = some r:=by rw [if_neg (show ¬ (false = true) by decide)] at H;exact H
     clear H
     have H:=H1
     clear H1
     exact absurd ((Option.some.inj H).trans HTr.out) (by decide)
end Go.Proofs.YtpflenjhmeaeoaaGreatDoor.GUt
