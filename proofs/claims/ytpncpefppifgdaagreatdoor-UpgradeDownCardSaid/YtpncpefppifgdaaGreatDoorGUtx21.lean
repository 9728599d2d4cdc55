/- Written by this session's own program (wip/gen.py) out of the translation: plain Lean functions of the Go functions, and proofs that the calls come to their answers. No conditions beside those in the statements. -/
import Derived.Test.YtpncpefppifgdaaGreatDoorCp
import Derived.Test.YtpncpefppifgdaaGreatDoorGUtx0
import Derived.Test.YtpncpefppifgdaaGreatDoorGUtx16
import Derived.Test.YtpncpefppifgdaaGreatDoorGUtx17
import Derived.Test.YtpncpefppifgdaaGreatDoorGUtx18
import Derived.Test.YtpncpefppifgdaaGreatDoorGUtx20
import Derived.Test.YtpncpefppifgdaaGreatDoorGC2RSame
import Derived.Test.YtpncpefppifgdaaGreatDoorGUtDown
import Derived.Test.YtpncpefppifgdaaGreatDoorGUtOfs
import Derived.Test.YtpncpefppifgdaaGreatDoorGW
namespace Go.Proofs.YtpncpefppifgdaaGreatDoor.GUt
open Go.RowKit Go.Proofs.YtpncpefppifgdaaGreatDoorW.PrintWords Go.Proofs.YtpncpefppifgdaaGreatDoorW.PrintLast Go.Proofs.YtpncpefppifgdaaGreatDoorW.PrintMore
attribute [local go_sem] fH fI gF gG eZ fq fJ fK
set_option linter.unusedVariables false
set_option linter.unusedSimpArgs false
def bI.f (k : Nat) (BJ : Int) (BI : List (S79)) : Option (Bool):=(aX.f k BJ BI).bind fun Da=>(if Da = true then ((dW.f k BJ BI).bind fun Co=>((dn.f BJ BI).bind fun Cr=>((aI.f k Cr.1 Cr.2).bind fun Cc=>((aU.f k).bind fun Cz=>(if Cz = true then (if (Co.2.2 == Cc.2.2) = true then ((bf.f k Co.1 Co.2.1).bind fun BZ=>((cB.f BZ.1 BZ.2 Cc.1 Cc.2.1).bind fun Cq=>(some Cq))) else (some false)) else (some false)))))) else ((aU.f k).bind fun CX=>(some CX)))
theorem bI.mono : ∀ a0 a1 k,LeO (bI.f k a0 a1) (bI.f (k + 1) a0 a1):=by
 intro a0 a1 k
 unfold bI.f
 repeat' first
   | (with_reducible exact bf.mono _ _ _)
   | (with_reducible exact aX.mono _ _ _)
   | (with_reducible exact aU.mono _)
   | (with_reducible exact aI.mono _ _ _)
   | (with_reducible exact dW.mono _ _ _)
   | (with_reducible exact LeO.refl _)
   | (with_reducible exact LeO.none _)
   | (with_reducible refine LeO.ite ?_ ?_)
   | (with_reducible refine LeO.bind ?_ (fun _=>?_))
   | exact bf.mono _ _ _
   | exact aX.mono _ _ _
   | exact aU.mono _
   | exact aI.mono _ _ _
   | exact dW.mono _ _ _
   | exact LeO.none _
   | refine LeO.ite ?_ ?_
   | refine LeO.bind ?_ (fun _=>?_)
def bI.T5 : Bool × List (List Nat × List Nat):=(true,[([],[]),([0,0],[0]),([1],[1]),([1],[1]),([2,3,1],[1,2,3]),([1,4],[1,4]),([5,1],[5]),([6],[6]),([7,6,6],[6,7]),([6],[6]),([8,9,8,6],[6,8,9]),([6,10],[6,10]),([11,10,0,1,2,3,4,5,6,7,8,9,10,11],[11])])
def bI.B5 : List Nat:=[0,1,3,3,15,31,63,127,255,127,1023,2047,4095]
theorem bI.qB : gT .any (opsOf Tryz.f4 5) = bI.T5:=by kernel_rfl
theorem bI.mK : fO bI.T5.2 bI.B5 = true:=by kernel_rfl
set_option maxHeartbeats 8000000 in
set_option maxRecDepth 100000 in
theorem bI.calls (k : Nat) (BJ : Int) (BO : Option Addr) (BP : Nat) (BI : List (S79)) (r : Bool) (w : World) (Dm : Kd.C k79 w BO BI.length BI) (Dn : BI.length ≤ BP) (h : bI.f k BJ BI = some r) (hG : GW.GW w) (hT : r = true) :
  Calls Tryz.prog 4 #[.agg #[.int .u64 BJ,.slice BO BI.length BP]] w fun e w'=>e = .returned (.bool r) ∧ Below w.heap.size w w':=by
 have HTr:=Aside0.mk hT
 clear hT
 have FN:=Tryz.underlying51
 have FP:=Tryz.underlying29
 have FQ:=Tryz.underlying39
 have CU:=Aside0.mk Dm
 have CV:=Aside0.mk Dn
 clear Dm Dn
 have HB:=Aside0.mk (Below.refl w.heap.size w)
 have H : ((aX.f k BJ BI).bind fun Da=>(if Da = true then ((dW.f k BJ BI).bind fun Co=>((dn.f BJ BI).bind fun Cr=>((aI.f k Cr.1 Cr.2).bind fun Cc=>((aU.f k).bind fun Cz=>(if Cz = true then (if (Co.2.2 == Cc.2.2) = true then ((bf.f k Co.1 Co.2.1).bind fun BZ=>((cB.f BZ.1 BZ.2 Cc.1 Cc.2.1).bind fun Cq=>(some Cq))) else (some false)) else (some false)))))) else ((aU.f k).bind fun CX=>(some CX)))) = some r:=h
 clear h
 replace H:=Option.bind_eq_some_iff.mp H
 obtain ⟨Da,E9,H⟩:=H
 replace H : (if Da = true then ((dW.f k BJ BI).bind fun Co=>((dn.f BJ BI).bind fun Cr=>((aI.f k Cr.1 Cr.2).bind fun Cc=>((aU.f k).bind fun Cz=>(if Cz = true then (if (Co.2.2 == Cc.2.2) = true then ((bf.f k Co.1 Co.2.1).bind fun BZ=>((cB.f BZ.1 BZ.2 Cc.1 Cc.2.1).bind fun Cq=>(some Cq))) else (some false)) else (some false)))))) else ((aU.f k).bind fun CX=>(some CX))) = some r:=H
 have A2:=Aside0.mk E9
 clear E9
 by_cases c3 : Da = true
 ·subst c3
  have H1 : ((dW.f k BJ BI).bind fun Co=>((dn.f BJ BI).bind fun Cr=>((aI.f k Cr.1 Cr.2).bind fun Cc=>((aU.f k).bind fun Cz=>(if Cz = true then (if (Co.2.2 == Cc.2.2) = true then ((bf.f k Co.1 Co.2.1).bind fun BZ=>((cB.f BZ.1 BZ.2 Cc.1 Cc.2.1).bind fun Cq=>(some Cq))) else (some false)) else (some false)))))) = some r:=by rw [if_pos rfl] at H;exact H
  clear H
  have H:=H1
  clear H1
  replace H:=Option.bind_eq_some_iff.mp H
  obtain ⟨⟨Cb,BR,CG⟩,Fa,H⟩:=H
  replace H : ((dn.f BJ BI).bind fun Cr=>((aI.f k Cr.1 Cr.2).bind fun Cc=>((aU.f k).bind fun Cz=>(if Cz = true then (if (CG == Cc.2.2) = true then ((bf.f k Cb BR).bind fun BZ=>((cB.f BZ.1 BZ.2 Cc.1 Cc.2.1).bind fun Cq=>(some Cq))) else (some false)) else (some false))))) = some r:=H
  have A4:=Aside0.mk Fa
  clear Fa
  replace H:=Option.bind_eq_some_iff.mp H
  obtain ⟨⟨C8,CW⟩,Fb,H⟩:=H
  replace H : ((aI.f k C8 CW).bind fun Cc=>((aU.f k).bind fun Cz=>(if Cz = true then (if (CG == Cc.2.2) = true then ((bf.f k Cb BR).bind fun BZ=>((cB.f BZ.1 BZ.2 Cc.1 Cc.2.1).bind fun Cq=>(some Cq))) else (some false)) else (some false)))) = some r:=H
  have A5:=Aside0.mk Fb
  clear Fb
  replace H:=Option.bind_eq_some_iff.mp H
  obtain ⟨⟨Ca,BQ,CJ⟩,Fe,H⟩:=H
  replace H : ((aU.f k).bind fun Cz=>(if Cz = true then (if (CG == CJ) = true then ((bf.f k Cb BR).bind fun BZ=>((cB.f BZ.1 BZ.2 Ca BQ).bind fun Cq=>(some Cq))) else (some false)) else (some false))) = some r:=H
  have A6:=Aside0.mk Fe
  clear Fe
  replace H:=Option.bind_eq_some_iff.mp H
  obtain ⟨Cz,Fg,H⟩:=H
  replace H : (if Cz = true then (if (CG == CJ) = true then ((bf.f k Cb BR).bind fun BZ=>((cB.f BZ.1 BZ.2 Ca BQ).bind fun Cq=>(some Cq))) else (some false)) else (some false)) = some r:=H
  have A7:=Aside0.mk Fg
  clear Fg
  by_cases c8 : Cz = true
  ·subst c8
   have H1 : (if (CG == CJ) = true then ((bf.f k Cb BR).bind fun BZ=>((cB.f BZ.1 BZ.2 Ca BQ).bind fun Cq=>(some Cq))) else (some false)) = some r:=by rw [if_pos rfl] at H;exact H
   clear H
   have H:=H1
   clear H1
   by_cases c9 : (CG == CJ) = true
   ·rw [if_pos c9] at H
    have c9b0 : (CG == CJ) = true:=c9
    (try (have c9b1 : decide (CG = CJ) = true:=by simpa using c9))
    (try (have c9b2 : (CG == CJ) = true:=by simpa using c9))
    clear c9
    replace H:=Option.bind_eq_some_iff.mp H
    obtain ⟨⟨Dk,Dl⟩,Dt,H⟩:=H
    replace H : ((cB.f Dk Dl Ca BQ).bind fun Cq=>(some Cq)) = some r:=H
    have FR:=Aside0.mk Dt
    clear Dt
    replace H:=Option.bind_eq_some_iff.mp H
    obtain ⟨Cq,Du,H⟩:=H
    replace H : (some Cq) = some r:=H
    have FT:=Aside0.mk Du
    clear Du
    obtain rfl:=Option.some.inj H
    go_enter Tryz.func4,Tryz.ntmps4
    try go_wp2_with (first|((with_reducible refine bN (N:=1) rfl ?_);refine bT ?hg (N:=1) ?hd (cs:=#[.int .u64 BJ,.slice BO BI.length BP]) (t:=51) ?hr ?_;(case hd=>rfl);(case hg=>rfl);(case hr=>first|(go_simp;done)|(go_simp;rfl));intro BD hg Fh hbox hb;have BS:=Aside0.mk (aN hb_ hb);have BU:=Aside0.mk (hbox);have Ce:=Aside0.mk ((by rw [hg];exact (aR hb_) : w.heap.size ≤ BD));have Ch:=Aside0.mk ((by rw [hg];exact (aR hb_) : w.heap.size ≤ BD));clear HB;have HB:=BS;have Bw:=BU;have C9:=Ce;have Dp:=Ch;clear BS BU Ce Ch;clear hb hbox hg;have DU : Fh.cell? ⟨BD,0,none⟩ = some (.int .u64 BJ):=(ah Bw.out 0).trans rfl;have DV : Fh.cell? ⟨BD,1,none⟩ = some (.slice BO BI.length BP):=(ah Bw.out 1).trans rfl;have DW:=av Bw.out 0;have DX:=av Bw.out 1)|((with_reducible refine bG (f:=19) rfl ?_);refine dJ (some 8) rfl rfl Tryz.func19 (by kernel_rfl) rfl #[.agg #[.int .u64 BJ,.slice BO BI.length BP]] rfl (by (try simp only [List.map_toArray,List.map_cons,List.map_nil]);first|done|rfl|(simp only [List.length_drop,List.length_take];rfl)|(simp (disch:=first|omega|(simp at *;omega)) only [dK,bW,eG];rfl)) ?_;(with_reducible refine (aX.calls k BJ _ _ BI true _ ?Cg ?Cm A2.out).mono ?_);(case Cg=>repeat (first|exact (Kd.bJ CU.out HB.out)|(with_reducible refine Kd.bH ?_ _)|(with_reducible refine Kd.bX ?_ _)|(with_reducible refine Kd.dA ?_)));(case Cm=>exact CV.out);rintro e Fj ⟨rfl,hb⟩;refine ⟨_,rfl,?_⟩;have BS:=Aside0.mk (aJ (g:=BD) (o:=.cells #[.int .u64 BJ,.slice BO BI.length BP] 51 (0,0)) (bk_ Bw.out) hb);have BU:=Aside0.mk (aN hb_ hb);clear Bw;clear HB;have Bw:=BS;have HB:=BU;clear BS BU;(try clear hb);(try clear hb2);(try clear hk);(try clear hi);have DY : Fj.cell? ⟨BD,0,none⟩ = some (.int .u64 BJ):=(ah Bw.out 0).trans rfl;have DZ : Fj.cell? ⟨BD,1,none⟩ = some (.slice BO BI.length BP):=(ah Bw.out 1).trans rfl;have D5:=av Bw.out 0;have D6:=av Bw.out 1)|((with_reducible refine bG (f:=20) rfl ?_);refine dJ (some 13) rfl rfl Tryz.func20 (by kernel_rfl) rfl #[.agg #[.int .u64 BJ,.slice BO BI.length BP]] rfl (by (try simp only [List.map_toArray,List.map_cons,List.map_nil]);first|done|rfl|(simp only [List.length_drop,List.length_take];rfl)|(simp (disch:=first|omega|(simp at *;omega)) only [dK,bW,eG];rfl)) ?_;(with_reducible refine (dW.calls k BJ _ _ BI Cb BR CG _ ?Cg ?Cm A4.out).mono ?_);(case Cg=>repeat (first|exact (Kd.bJ CU.out HB.out)|(with_reducible refine Kd.bH ?_ _)|(with_reducible refine Kd.bX ?_ _)|(with_reducible refine Kd.dA ?_)));(case Cm=>exact CV.out);rintro e w16 ⟨EN,rfl,ho0,hb⟩;refine ⟨_,rfl,?_⟩;have BS:=Aside0.mk (Kd.iT (Kd.dD (ok':=fun k_=>k_ ≠ BD) ho0 (fun k_ hk_=>(Kd.kN (g:=BD) (o:=.cells #[.int .u64 BJ,.slice BO BI.length BP] 51 (0,0)) (bk_ Bw.out) k_ hk_))) (aR hb_));have BU:=Aside0.mk (aJ (g:=BD) (o:=.cells #[.int .u64 BJ,.slice BO BI.length BP] 51 (0,0)) (bk_ Bw.out) hb);have Ce:=Aside0.mk (aN hb_ hb);clear Bw;clear HB;have BG:=BS;have Bw:=BU;have HB:=Ce;clear BS BU Ce;(try clear hb);(try clear hb2);(try clear hk);(try clear hi);(try clear ho0))|((with_reducible refine bN (N:=3) rfl ?_);refine bT ?hg (N:=3) ?hd (cs:=#[.int .u64 0,.slice none 0 0]) (t:=29) ?hr ?_;(case hd=>rfl);(case hg=>rfl);(case hr=>first|(go_simp;done)|(go_simp;rfl));intro BH hg EO hbox hb;have BS:=Aside0.mk (Kd.dz (Kd.iq (kv_ BG.out) BH (Nat.le_of_eq hg.symm)) hb);have BU:=Aside0.mk (aJ (g:=BD) (o:=.cells #[.int .u64 BJ,.slice BO BI.length BP] 51 (0,0)) (bk_ Bw.out) hb);have Ce:=Aside0.mk (aN hb_ hb);have Ch:=Aside0.mk (hbox);have Cn:=Aside0.mk ((by rw [hg];exact (aR hb_) : w.heap.size ≤ BH));have Ct:=Aside0.mk ((by rw [hg];exact (aR hb_) : w.heap.size ≤ BH));have Cw:=Aside0.mk ((by rw [hg];exact Nat.ne_of_lt (aW (g:=BD) (o:=.cells #[.int .u64 BJ,.slice BO BI.length BP] 51 (0,0)) (bk_ Bw.out)) : BD ≠ BH));have CZ:=Aside0.mk ((by rw [hg];exact Nat.ne_of_gt (aW (g:=BD) (o:=.cells #[.int .u64 BJ,.slice BO BI.length BP] 51 (0,0)) (bk_ Bw.out)) : BH ≠ BD));clear BG;clear Bw;clear HB;have BG:=BS;have Bw:=BU;have HB:=Ce;have BF:=Ch;have Db:=Cn;have Dv:=Ct;have Ci:=Cw;have CK:=CZ;clear BS BU Ce Ch Cn Ct Cw CZ;clear hb hbox hg;have Fp:=CK.out;have Fq:=Ci.out;have D7 : EO.cell? ⟨BH,0,none⟩ = some (.int .u64 0):=(ah BF.out 0).trans rfl;have D8 : EO.cell? ⟨BH,1,none⟩ = some (.slice none 0 0):=(ah BF.out 1).trans rfl;have D9:=av BF.out 0;have Ea:=av BF.out 1;obtain ⟨Cx,Cy,EP⟩:=Kd.gI BG.out;subst EP)|((with_reducible refine l8 (t:=29) (p:=3) rfl ?_);refine kP (t:=29) (p:=3) (v:=?vo_w21) (w1:=((EO.setCell ⟨BH,0,none⟩ (.int .u64 Cb)).setCell ⟨BH,1,none⟩ (.slice Cx BR.length Cy))) ?hg ?ho ?hn ?hr ?_;(case ho=>rfl);(case hg=>rfl);(case hn=>rfl);(case hr=>first|(go_simp;done)|(go_simp;rfl));intro Dq hw;have BS : Aside0 (Kd.V k71 71 Dq w.heap.size (fun k_=>k_ ≠ BD ∧ k_ ≠ BH) (.slice Cx BR.length Cy) BR):=⟨(by rw [hw];exact (by (with_reducible repeat (first|apply Kd.gJ|apply Kd.gK|apply Kd.gH));exact Kd.dD (Kd.cK (p:=⟨BH,1,none⟩) (Kd.cK (p:=⟨BH,0,none⟩) (Kd.dD BG.out (fun k_ hk=>(⟨hk,hk.2⟩ : _ ∧ k_ ≠ BH))) (fun _ hk=>hk.2) (.int .u64 Cb)) (fun _ hk=>hk.2) (.slice Cx BR.length Cy)) (fun _ hk=>⟨hk.1.1,hk.1.2⟩)))⟩;have BU : Aside0 (Dq.heap[BD]? = some (.cells #[.int .u64 BJ,.slice BO BI.length BP] 51 (0,0))):=⟨(by rw [hw];exact (by (with_reducible repeat (first|apply aj|apply ay|apply ak));refine aD ?_ Ci.out _;(with_reducible repeat (first|apply aj|apply ay|apply ak));refine aD ?_ Ci.out _;(with_reducible repeat (first|apply aj|apply ay|apply ak));exact Bw.out))⟩;have Ce : Aside0 (Dq.heap[BH]? = some (.cells #[.int .u64 Cb,.slice Cx BR.length Cy] 29 (0,0))):=⟨(by rw [hw];exact (by (with_reducible repeat (first|apply aj|apply ay|apply ak));refine aQ (cs:=#[.int .u64 Cb,.slice none 0 0]) ?_ 1 _ rfl;(with_reducible repeat (first|apply aj|apply ay|apply ak));refine aQ (cs:=#[.int .u64 0,.slice none 0 0]) ?_ 0 _ rfl;(with_reducible repeat (first|apply aj|apply ay|apply ak));exact BF.out))⟩;have Ch : Aside0 (Below w.heap.size w Dq):=⟨(by rw [hw];exact hb_)⟩;clear hw;clear BG;clear Bw;clear BF;clear HB;have BG:=BS;have Bw:=BU;have BF:=Ce;have HB:=Ch;clear BS BU Ce Ch;have Eb : Dq.cell? ⟨BD,0,none⟩ = some (.int .u64 BJ):=(ah Bw.out 0).trans rfl;have Ec : Dq.cell? ⟨BD,1,none⟩ = some (.slice BO BI.length BP):=(ah Bw.out 1).trans rfl;have Ed:=av Bw.out 0;have Ee:=av Bw.out 1)|((with_reducible refine bG (f:=15) rfl ?_);refine dJ (some 18) rfl rfl Tryz.func15 (by kernel_rfl) rfl #[.agg #[.int .u64 BJ,.slice BO BI.length BP]] rfl (by (try simp only [List.map_toArray,List.map_cons,List.map_nil]);first|done|rfl|(simp only [List.length_drop,List.length_take];rfl)|(simp (disch:=first|omega|(simp at *;omega)) only [dK,bW,eG];rfl)) ?_;(with_reducible refine (dn.calls BJ (fun k_=>k_ < w.heap.size) _ _ BI C8 CW _ ?Cg A5.out).mono ?_);(case Cg=>exact Kd.mH CV.out (Kd.jQ (Kd.C_F qW CU.out) hb_));rintro e F4 ⟨ER,rfl,ho0,hb⟩;refine ⟨_,rfl,?_⟩;have BS:=Aside0.mk (Kd.dz (kv_ BG.out) hb);have BU:=Aside0.mk (Kd.iT (Kd.dD (ok':=fun k_=>k_ ≠ BD ∧ k_ ≠ BH) ho0 (fun k_ hk_=>⟨Or.elim hk_ (fun hs_=>fun e_=>Nat.not_le.2 hs_ (by rw [e_];exact C9.out)) (fun hn_=>(Kd.kN (g:=BD) (o:=.cells #[.int .u64 BJ,.slice BO BI.length BP] 51 (0,0)) (bk_ Bw.out) k_ hn_)),Or.elim hk_ (fun hs_=>fun e_=>Nat.not_le.2 hs_ (by rw [e_];exact Db.out)) (fun hn_=>(Kd.kN (g:=BH) (o:=.cells #[.int .u64 Cb,.slice Cx BR.length Cy] 29 (0,0)) (bk_ BF.out) k_ hn_))⟩)) (aR hb_));have Ce:=Aside0.mk (aJ (g:=BD) (o:=.cells #[.int .u64 BJ,.slice BO BI.length BP] 51 (0,0)) (bk_ Bw.out) hb);have Ch:=Aside0.mk (aJ (g:=BH) (o:=.cells #[.int .u64 Cb,.slice Cx BR.length Cy] 29 (0,0)) (bk_ BF.out) hb);have Cn:=Aside0.mk (aN hb_ hb);clear BG;clear Bw;clear BF;clear HB;have BG:=BS;have BK:=BU;have Bw:=Ce;have BF:=Ch;have HB:=Cn;clear BS BU Ce Ch Cn;(try clear hb);(try clear hb2);(try clear hk);(try clear hi);(try clear ho0);obtain ⟨Dw,Dx,ES⟩:=Kd.gI BK.out;subst ES)|((with_reducible refine bG (f:=21) rfl ?_);refine dJ (some 19) rfl rfl Tryz.func21 (by kernel_rfl) rfl #[.agg #[.int .u64 C8,.slice Dw CW.length Dx]] rfl (by (try simp only [List.map_toArray,List.map_cons,List.map_nil]);first|done|rfl|(simp only [List.length_drop,List.length_take];rfl)|(simp (disch:=first|omega|(simp at *;omega)) only [dK,bW,eG];rfl)) ?_;(with_reducible refine (aI.calls k C8 _ _ CW Ca BQ CJ _ ?Cg ?Cm A6.out).mono ?_);(case Cg=>repeat (first|exact (Kd.d9 BK.out).2.2|(with_reducible refine Kd.bH ?_ _)|(with_reducible refine Kd.bX ?_ _)|(with_reducible refine Kd.dA ?_)));(case Cm=>exact (Kd.d9 BK.out).2.1);rintro e F5 ⟨ET,rfl,ho0,hb⟩;refine ⟨_,rfl,?_⟩;have BS:=Aside0.mk (Kd.ig (kv_ BG.out) (Kd.iV ho0) hb);have BU:=Aside0.mk (Kd.ig (kv_ BK.out) (Kd.iV ho0) hb);have Ce:=Aside0.mk (Kd.lH ho0 (aR hb_));have Ch:=Aside0.mk (aJ (g:=BD) (o:=.cells #[.int .u64 BJ,.slice BO BI.length BP] 51 (0,0)) (bk_ Bw.out) hb);have Cn:=Aside0.mk (aJ (g:=BH) (o:=.cells #[.int .u64 Cb,.slice Cx BR.length Cy] 29 (0,0)) (bk_ BF.out) hb);have Ct:=Aside0.mk (aN hb_ hb);clear BG;clear BK;clear Bw;clear BF;clear HB;have BG:=BS;have BK:=BU;have BN:=Ce;have Bw:=Ch;have BF:=Cn;have HB:=Ct;clear BS BU Ce Ch Cn Ct;(try clear hb);(try clear hb2);(try clear hk);(try clear hi);(try clear ho0))|((with_reducible refine bN (N:=5) rfl ?_);refine bT ?hg (N:=5) ?hd (cs:=#[.int .u64 0,.slice none 0 0]) (t:=39) ?hr ?_;(case hd=>rfl);(case hg=>rfl);(case hr=>first|(go_simp;done)|(go_simp;rfl));intro Bz hg Di hbox hb;have BS:=Aside0.mk (Kd.dz (Kd.iq (kv_ BG.out) Bz (Nat.le_of_eq hg.symm)) hb);have BU:=Aside0.mk (Kd.dz (Kd.iq (kv_ BK.out) Bz (Nat.le_of_eq hg.symm)) hb);have Ce:=Aside0.mk (Kd.fB (by (with_reducible repeat (first|apply Kd.dw|apply Kd.dx|apply Kd.dN));exact BN.out) hb);have Ch:=Aside0.mk (aJ (g:=BD) (o:=.cells #[.int .u64 BJ,.slice BO BI.length BP] 51 (0,0)) (bk_ Bw.out) hb);have Cn:=Aside0.mk (aJ (g:=BH) (o:=.cells #[.int .u64 Cb,.slice Cx BR.length Cy] 29 (0,0)) (bk_ BF.out) hb);have Ct:=Aside0.mk (aN hb_ hb);have Cw:=Aside0.mk (hbox);have CZ:=Aside0.mk ((by rw [hg];exact (aR hb_) : w.heap.size ≤ Bz));have Dy:=Aside0.mk ((by rw [hg];exact (aR hb_) : w.heap.size ≤ Bz));have Dz:=Aside0.mk ((by rw [hg];exact Nat.ne_of_lt (aW (g:=BD) (o:=.cells #[.int .u64 BJ,.slice BO BI.length BP] 51 (0,0)) (bk_ Bw.out)) : BD ≠ Bz));have Dc:=Aside0.mk ((by rw [hg];exact Nat.ne_of_gt (aW (g:=BD) (o:=.cells #[.int .u64 BJ,.slice BO BI.length BP] 51 (0,0)) (bk_ Bw.out)) : Bz ≠ BD));have Df:=Aside0.mk ((by rw [hg];exact Nat.ne_of_lt (aW (g:=BH) (o:=.cells #[.int .u64 Cb,.slice Cx BR.length Cy] 29 (0,0)) (bk_ BF.out)) : BH ≠ Bz));have Dh:=Aside0.mk ((by rw [hg];exact Nat.ne_of_gt (aW (g:=BH) (o:=.cells #[.int .u64 Cb,.slice Cx BR.length Cy] 29 (0,0)) (bk_ BF.out)) : Bz ≠ BH));clear BG;clear BK;clear BN;clear Bw;clear BF;clear HB;have BG:=BS;have BK:=BU;have BN:=Ce;have Bw:=Ch;have BF:=Cn;have HB:=Ct;have BL:=Cw;have DF:=CZ;have DI:=Dy;have Cj:=Dz;have CO:=Dc;have Ck:=Df;have CP:=Dh;clear BS BU Ce Ch Cn Ct Cw CZ Dy Dz Dc Df Dh;clear hb hbox hg;have Fu:=CO.out;have Fv:=Cj.out;have Fw:=CP.out;have Fx:=Ck.out;have Ef : Di.cell? ⟨Bz,0,none⟩ = some (.int .u64 0):=(ah BL.out 0).trans rfl;have Eh : Di.cell? ⟨Bz,1,none⟩ = some (.slice none 0 0):=(ah BL.out 1).trans rfl;have Ei:=av BL.out 0;have Ej:=av BL.out 1;obtain ⟨Cu,Cv,EU⟩:=Kd.jo BN.out;subst EU))
    have BS : Aside0 (Kd.V k71 71 ((Di.setCell ⟨Bz,0,none⟩ (.int .u64 Ca)).setCell ⟨Bz,1,none⟩ (.slice Cu BQ.length Cv)) w.heap.size (fun k_=>some k_ ≠ (.slice Cu BQ.length Cv : Value).ownBlock ∧ k_ ≠ BD ∧ k_ ≠ BH ∧ k_ ≠ Bz) (.slice Cx BR.length Cy) BR):=⟨by (with_reducible repeat (first|apply Kd.gJ|apply Kd.gK|apply Kd.gH));exact Kd.dD (Kd.cK (p:=⟨Bz,1,none⟩) (Kd.cK (p:=⟨Bz,0,none⟩) (Kd.dD BG.out (fun k_ hk=>(⟨hk,hk.2⟩ : _ ∧ k_ ≠ Bz))) (fun _ hk=>hk.2) (.int .u64 Ca)) (fun _ hk=>hk.2) (.slice Cu BQ.length Cv)) (fun _ hk=>⟨hk.1.1.2,⟨hk.1.1.1.1,⟨hk.1.1.1.2,hk.1.2⟩⟩⟩)⟩
    have BU : Aside0 (Kd.V k96 96 ((Di.setCell ⟨Bz,0,none⟩ (.int .u64 Ca)).setCell ⟨Bz,1,none⟩ (.slice Cu BQ.length Cv)) w.heap.size (fun k_=>some k_ ≠ (.slice Cu BQ.length Cv : Value).ownBlock ∧ k_ ≠ BD ∧ k_ ≠ BH ∧ k_ ≠ Bz) (.slice Dw CW.length Dx) CW):=⟨by (with_reducible repeat (first|apply Kd.gJ|apply Kd.gK|apply Kd.gH));exact Kd.dD (Kd.cK (p:=⟨Bz,1,none⟩) (Kd.cK (p:=⟨Bz,0,none⟩) (Kd.dD BK.out (fun k_ hk=>(⟨hk,hk.2⟩ : _ ∧ k_ ≠ Bz))) (fun _ hk=>hk.2) (.int .u64 Ca)) (fun _ hk=>hk.2) (.slice Cu BQ.length Cv)) (fun _ hk=>⟨hk.1.1.2,⟨hk.1.1.1.1,⟨hk.1.1.1.2,hk.1.2⟩⟩⟩)⟩
    have Ce : Aside0 (Kd.S k88 88 ((Di.setCell ⟨Bz,0,none⟩ (.int .u64 Ca)).setCell ⟨Bz,1,none⟩ (.slice Cu BQ.length Cv)) w.heap.size (fun _=>True) (.slice Cu BQ.length Cv) BQ):=⟨by (with_reducible repeat (first|apply Kd.dw|apply Kd.dx|apply Kd.dN));exact Kd.fV (Kd.dB (p:=⟨Bz,1,none⟩) (Kd.dB (p:=⟨Bz,0,none⟩) (Kd.gV BN.out BL.out (by decide)) (fun _ hk=>hk.2) (.int .u64 Ca)) (fun _ hk=>hk.2) (.slice Cu BQ.length Cv)) (fun _ hk=>trivial)⟩
    have Ch : Aside0 (((Di.setCell ⟨Bz,0,none⟩ (.int .u64 Ca)).setCell ⟨Bz,1,none⟩ (.slice Cu BQ.length Cv)).heap[BD]? = some (.cells #[.int .u64 BJ,.slice BO BI.length BP] 51 (0,0))):=⟨by (with_reducible repeat (first|apply aj|apply ay|apply ak));refine aD ?_ Cj.out _;(with_reducible repeat (first|apply aj|apply ay|apply ak));refine aD ?_ Cj.out _;(with_reducible repeat (first|apply aj|apply ay|apply ak));exact Bw.out⟩
    have Cn : Aside0 (((Di.setCell ⟨Bz,0,none⟩ (.int .u64 Ca)).setCell ⟨Bz,1,none⟩ (.slice Cu BQ.length Cv)).heap[BH]? = some (.cells #[.int .u64 Cb,.slice Cx BR.length Cy] 29 (0,0))):=⟨by (with_reducible repeat (first|apply aj|apply ay|apply ak));refine aD ?_ Ck.out _;(with_reducible repeat (first|apply aj|apply ay|apply ak));refine aD ?_ Ck.out _;(with_reducible repeat (first|apply aj|apply ay|apply ak));exact BF.out⟩
    have Ct : Aside0 (((Di.setCell ⟨Bz,0,none⟩ (.int .u64 Ca)).setCell ⟨Bz,1,none⟩ (.slice Cu BQ.length Cv)).heap[Bz]? = some (.cells #[.int .u64 Ca,.slice Cu BQ.length Cv] 39 (0,0))):=⟨by (with_reducible repeat (first|apply aj|apply ay|apply ak));refine aQ (cs:=#[.int .u64 Ca,.slice none 0 0]) ?_ 1 _ rfl;(with_reducible repeat (first|apply aj|apply ay|apply ak));refine aQ (cs:=#[.int .u64 0,.slice none 0 0]) ?_ 0 _ rfl;(with_reducible repeat (first|apply aj|apply ay|apply ak));exact BL.out⟩
    have Cw : Aside0 (Below w.heap.size w ((Di.setCell ⟨Bz,0,none⟩ (.int .u64 Ca)).setCell ⟨Bz,1,none⟩ (.slice Cu BQ.length Cv))):=⟨hb_⟩
    (try clear BG)
    (try clear BK)
    (try clear BN)
    (try clear Bw)
    (try clear BF)
    (try clear BL)
    (try clear HB)
    generalize ((Di.setCell ⟨Bz,0,none⟩ (.int .u64 Ca)).setCell ⟨Bz,1,none⟩ (.slice Cu BQ.length Cv)) = FU at BS BU Ce Ch Cn Ct Cw ⊢
    have BG:=BS
    have BK:=BU
    have BN:=Ce
    have Bw:=Ch
    have BF:=Cn
    have BL:=Ct
    have HB:=Cw
    clear BS BU Ce Ch Cn Ct Cw
    have BS:=Aside0.mk (Kd.gH BG.out)
    have BU:=Aside0.mk (Kd.gH BK.out)
    have Ce:=Aside0.mk (Kd.dN BN.out)
    have Ch:=Aside0.mk (ay Bw.out)
    have Cn:=Aside0.mk (ay BF.out)
    have Ct:=Aside0.mk (ay BL.out)
    have Cw:=Aside0.mk (bL HB.out)
    clear BG
    clear BK
    clear BN
    clear Bw
    clear BF
    clear BL
    clear HB
    have BG:=BS
    have BK:=BU
    have BN:=Ce
    have Bw:=Ch
    have BF:=Cn
    have BL:=Ct
    have HB:=Cw
    clear BS BU Ce Ch Cn Ct Cw
    refine gZ (n:=13) (S:=fun w'=>w'.cell? ⟨BH,0,none⟩ = some (.int .u64 Cb) ∧ w'.cell? ⟨BH,1,none⟩ = some (.slice Cx BR.length Cy) ∧ w'.cell? ⟨Bz,0,none⟩ = some (.int .u64 Ca) ∧ w'.cell? ⟨Bz,1,none⟩ = some (.slice Cu BQ.length Cv)) (ds:=[]) #[O,O,O,O,O,O,O,O,O,O,O,O,O] (by kernel_rfl) rfl rfl ⟨(ah BF.out 0).trans rfl,(ah BF.out 1).trans rfl,(ah BL.out 0).trans rfl,(ah BL.out 1).trans rfl⟩ (fun hHeld=>?_);refine eY bI.qB bI.mK (fun HT_ HW_=>?_)
    generalize FU.drew = w32 at BG BK BN Bw BF BL HB hHeld ⊢
    refine fU (i:=0) (N:=some 22) #[I,O,O,O,O,O,O,O,O,O,O,O,O] rfl rfl (cO HT_.out (by kernel_rfl)) (by decide) (fun K hK=>?_)
    refine eU Tryz.func8 (by kernel_rfl) rfl #[] (by rfl) rfl rfl (by (try simp only [List.map_toArray,List.map_cons,List.map_nil]);first|done|rfl|(simp only [List.length_drop,List.length_take];rfl)) ?_
    with_reducible refine (aU.calls k  true _ A7.out (by first|assumption|exact GW.below hG (by first|exact HB.out|assumption|(repeat (first|(with_reducible first|exact HB.out|apply dG|apply bB|apply bL)|exact HB.out)))|exact GW.drawn hG (by first|assumption|(repeat (first|exact Drawn0.refl _|assumption|apply Drawn0.step))))).mono ?_
    rintro e F6 ⟨rfl,hb⟩
    refine ⟨_,rfl,?_⟩
    have BS:=Aside0.mk (Kd.dz (kv_ BG.out) hb)
    have BU:=Aside0.mk (Kd.dz (kv_ BK.out) hb)
    have Ce:=Aside0.mk (Kd.fB (by (with_reducible repeat (first|apply Kd.dw|apply Kd.dx|apply Kd.dN));exact BN.out) hb)
    have Ch:=Aside0.mk (aJ (g:=BD) (o:=.cells #[.int .u64 BJ,.slice BO BI.length BP] 51 (0,0)) (bk_ Bw.out) hb)
    have Cn:=Aside0.mk (aJ (g:=BH) (o:=.cells #[.int .u64 Cb,.slice Cx BR.length Cy] 29 (0,0)) (bk_ BF.out) hb)
    have Ct:=Aside0.mk (aJ (g:=Bz) (o:=.cells #[.int .u64 Ca,.slice Cu BQ.length Cv] 39 (0,0)) (bk_ BL.out) hb)
    have Cw:=Aside0.mk (aN hb_ hb)
    clear BG
    clear BK
    clear BN
    clear Bw
    clear BF
    clear BL
    clear HB
    have BG:=BS
    have BK:=BU
    have BN:=Ce
    have Bw:=Ch
    have BF:=Cn
    have BL:=Ct
    have HB:=Cw
    clear BS BU Ce Ch Cn Ct Cw
    (try clear hb)
    (try clear hb2)
    (try clear hk)
    (try clear hi)
    refine hK.out _ _ ⟨(ah BF.out 0).trans rfl,(ah BF.out 1).trans rfl,(ah BL.out 0).trans rfl,(ah BL.out 1).trans rfl⟩ (fun hHeld=>?_)
    clear hK K
    refine dX (a':=?_) ?_ ?_
    rotate_left
    ·show Act.put _ (some 22) _ = _
     simp only [Act.put,List.setIfInBounds_toArray,List.set_cons_zero,List.set_cons_succ,bO,bR]
     rfl
    refine pu_ 1 23 #[I,I,O,O,O,O,O,O,O,O,O,O,O] HT_.out ?_
    refine pu_ 2 24 #[I,I,I,O,O,O,O,O,O,O,O,O,O] HT_.out ?_
    refine pu_ 3 25 #[I,I,I,I,O,O,O,O,O,O,O,O,O] HT_.out ?_
    refine pu_ 4 26 #[I,I,I,I,I,O,O,O,O,O,O,O,O] HT_.out ?_
    refine pu_ 5 27 #[I,I,I,I,I,I,O,O,O,O,O,O,O] HT_.out ?_
    refine pu_ 6 28 #[I,I,I,I,I,I,I,O,O,O,O,O,O] HT_.out ?_
    refine ta_ 7 29 #[I,I,I,I,I,I,I,I,O,O,O,O,O] HT_.out HW_.out hHeld ?_
    refine ta_ 9 31 #[I,I,I,I,I,I,I,I,O,I,O,O,O] HT_.out HW_.out hHeld ?_
    refine fU (i:=8) (N:=some 30) #[I,I,I,I,I,I,I,I,I,I,O,O,O] rfl rfl (cO HT_.out (by kernel_rfl)) (by decide) (fun K hK=>?_)
    refine eU Tryz.func10 (by kernel_rfl) rfl #[.agg #[.int .u64 Cb,.slice Cx BR.length Cy]] (by rfl) rfl rfl (by (try simp only [List.map_toArray,List.map_cons,List.map_nil]);first|done|rfl|(simp only [List.length_drop,List.length_take];rfl)) ?_
    with_reducible refine (bf.calls k Cb _ _ BR Dk Dl _ ?Cg ?Cm FR.out).mono ?_
    (case Cg=>repeat (first|exact (Kd.d9 BG.out).2.2|(with_reducible refine Kd.bH ?_ _)|(with_reducible refine Kd.bX ?_ _)|(with_reducible refine Kd.dA ?_)))
    (case Cm=>exact (Kd.d9 BG.out).2.1)
    rintro e F7 ⟨FV,rfl,ho0,hb⟩
    refine ⟨_,rfl,?_⟩
    have BS:=Aside0.mk (Kd.ig (kv_ BG.out) (Kd.iV ho0) hb)
    have BU:=Aside0.mk (Kd.ig (kv_ BK.out) (Kd.iV ho0) hb)
    have Ce:=Aside0.mk (Kd.qN (by (with_reducible repeat (first|apply Kd.dw|apply Kd.dx|apply Kd.dN));exact BN.out) (Kd.iV ho0) hb)
    have Ch:=Aside0.mk (Kd.lH (Kd.vk ho0 (Kd.yY (by (with_reducible repeat (first|apply Kd.dw|apply Kd.dx|apply Kd.dN));exact BN.out))) (aR hb_))
    have Cn:=Aside0.mk (aJ (g:=BD) (o:=.cells #[.int .u64 BJ,.slice BO BI.length BP] 51 (0,0)) (bk_ Bw.out) hb)
    have Ct:=Aside0.mk (aJ (g:=BH) (o:=.cells #[.int .u64 Cb,.slice Cx BR.length Cy] 29 (0,0)) (bk_ BF.out) hb)
    have Cw:=Aside0.mk (aJ (g:=Bz) (o:=.cells #[.int .u64 Ca,.slice Cu BQ.length Cv] 39 (0,0)) (bk_ BL.out) hb)
    have CZ:=Aside0.mk (aN hb_ hb)
    clear BG
    clear BK
    clear BN
    clear Bw
    clear BF
    clear BL
    clear HB
    have BG:=BS
    have BK:=BU
    have BN:=Ce
    have CY:=Ch
    have Bw:=Cn
    have BF:=Ct
    have BL:=Cw
    have HB:=CZ
    clear BS BU Ce Ch Cn Ct Cw CZ
    (try clear hb)
    (try clear hb2)
    (try clear hk)
    (try clear hi)
    (try clear ho0)
    obtain ⟨EW,EX,DJ⟩:=Kd.jo CY.out
    (first|subst DJ|(injection DJ with Fy FW Fz;have FX:=Fy.symm;have FY:=Fz.symm;clear Fy FW Fz;subst FX;subst FY))
    refine hK.out _ _ ⟨(ah BF.out 0).trans rfl,(ah BF.out 1).trans rfl,(ah BL.out 0).trans rfl,(ah BL.out 1).trans rfl⟩ (fun hHeld=>?_)
    clear hK K
    refine dX (a':=?_) ?_ ?_
    rotate_left
    ·show Act.put _ (some 30) _ = _
     simp only [Act.put,List.setIfInBounds_toArray,List.set_cons_zero,List.set_cons_succ,bO,bR]
     rfl
    refine fU (i:=10) (N:=some 32) #[I,I,I,I,I,I,I,I,I,I,I,O,O] rfl rfl (cO HT_.out (by kernel_rfl)) (by decide) (fun K hK=>?_)
    refine eU Tryz.func11 (by kernel_rfl) rfl #[.agg #[.int .u64 Dk,.slice EW Dl.length EX],.agg #[.int .u64 Ca,.slice Cu BQ.length Cv]] (by rfl) rfl rfl (by (try simp only [List.map_toArray,List.map_cons,List.map_nil]);first|done|rfl|(simp only [List.length_drop,List.length_take];rfl)) ?_
    with_reducible refine (cB.calls Dk _ _ Dl Ca _ _ BQ Cq _ ?Cg ?Cm ?DK ?DL FT.out).mono ?_
    (case Cg=>repeat (first|exact (Kd.jr CY.out).2.2|(with_reducible refine Kd.bH ?_ _)|(with_reducible refine Kd.bX ?_ _)|(with_reducible refine Kd.dA ?_)))
    (case Cm=>exact (Kd.jr CY.out).2.1)
    (case DK=>repeat (first|exact (Kd.jr BN.out).2.2|(with_reducible refine Kd.bH ?_ _)|(with_reducible refine Kd.bX ?_ _)|(with_reducible refine Kd.dA ?_)))
    (case DL=>exact (Kd.jr BN.out).2.1)
    rintro e F8 ⟨rfl,hb⟩
    refine ⟨_,rfl,?_⟩
    have BS:=Aside0.mk (Kd.dz (kv_ BG.out) hb)
    have BU:=Aside0.mk (Kd.dz (kv_ BK.out) hb)
    have Ce:=Aside0.mk (Kd.fB (by (with_reducible repeat (first|apply Kd.dw|apply Kd.dx|apply Kd.dN));exact BN.out) hb)
    have Ch:=Aside0.mk (Kd.fB (by (with_reducible repeat (first|apply Kd.dw|apply Kd.dx|apply Kd.dN));exact CY.out) hb)
    have Cn:=Aside0.mk (aJ (g:=BD) (o:=.cells #[.int .u64 BJ,.slice BO BI.length BP] 51 (0,0)) (bk_ Bw.out) hb)
    have Ct:=Aside0.mk (aJ (g:=BH) (o:=.cells #[.int .u64 Cb,.slice Cx BR.length Cy] 29 (0,0)) (bk_ BF.out) hb)
    have Cw:=Aside0.mk (aJ (g:=Bz) (o:=.cells #[.int .u64 Ca,.slice Cu BQ.length Cv] 39 (0,0)) (bk_ BL.out) hb)
    have CZ:=Aside0.mk (aN hb_ hb)
    clear BG
    clear BK
    clear BN
    clear CY
    clear Bw
    clear BF
    clear BL
    clear HB
    have BG:=BS
    have BK:=BU
    have BN:=Ce
    have CY:=Ch
    have Bw:=Cn
    have BF:=Ct
    have BL:=Cw
    have HB:=CZ
    clear BS BU Ce Ch Cn Ct Cw CZ
    (try clear hb)
    (try clear hb2)
    (try clear hk)
    (try clear hi)
    refine hK.out _ _ ⟨(ah BF.out 0).trans rfl,(ah BF.out 1).trans rfl,(ah BL.out 0).trans rfl,(ah BL.out 1).trans rfl⟩ (fun hHeld=>?_)
    clear hK K
    refine dX (a':=?_) ?_ ?_
    rotate_left
    ·show Act.put _ (some 32) _ = _
     simp only [Act.put,List.setIfInBounds_toArray,List.set_cons_zero,List.set_cons_succ,bO,bR]
     rfl
    refine pu_ 11 33 #[I,I,I,I,I,I,I,I,I,I,I,I,O] HT_.out ?_
    refine pu_ 12 2 #[I,I,I,I,I,I,I,I,I,I,I,I,I] HT_.out ?_
    refine iZ (gD HT_.out (by kernel_rfl)) ?_
    try go_wp2
    go_ret
    exact ⟨by first|rfl|(simp [bg,bA] <;> rfl)|(simp [*,bg,bA] <;> rfl),hb_⟩
   ·rw [if_neg c9] at H
    have c9b0 : (CG == CJ) = false:=by simpa using c9
    (try (have c9b1 : decide (CG = CJ) = false:=by simpa using c9))
    (try (have c9b2 : (CG == CJ) = false:=by simpa using c9))
    (try (have c9b3 : ¬ (CG = CJ):=by simpa using c9))
    clear c9
    obtain rfl:=Option.some.inj H
    go_enter Tryz.func4,Tryz.ntmps4
    try go_wp2_with (first|((with_reducible refine bN (N:=1) rfl ?_);refine bT ?hg (N:=1) ?hd (cs:=#[.int .u64 BJ,.slice BO BI.length BP]) (t:=51) ?hr ?_;(case hd=>rfl);(case hg=>rfl);(case hr=>first|(go_simp;done)|(go_simp;rfl));intro BD hg FB hbox hb;have BS:=Aside0.mk (aN hb_ hb);have BU:=Aside0.mk (hbox);have Ce:=Aside0.mk ((by rw [hg];exact (aR hb_) : w.heap.size ≤ BD));have Ch:=Aside0.mk ((by rw [hg];exact (aR hb_) : w.heap.size ≤ BD));clear HB;have HB:=BS;have Bw:=BU;have C9:=Ce;have Dp:=Ch;clear BS BU Ce Ch;clear hb hbox hg;have El : FB.cell? ⟨BD,0,none⟩ = some (.int .u64 BJ):=(ah Bw.out 0).trans rfl;have Em : FB.cell? ⟨BD,1,none⟩ = some (.slice BO BI.length BP):=(ah Bw.out 1).trans rfl;have En:=av Bw.out 0;have Eo:=av Bw.out 1)|((with_reducible refine bG (f:=19) rfl ?_);refine dJ (some 8) rfl rfl Tryz.func19 (by kernel_rfl) rfl #[.agg #[.int .u64 BJ,.slice BO BI.length BP]] rfl (by (try simp only [List.map_toArray,List.map_cons,List.map_nil]);first|done|rfl|(simp only [List.length_drop,List.length_take];rfl)|(simp (disch:=first|omega|(simp at *;omega)) only [dK,bW,eG];rfl)) ?_;(with_reducible refine (aX.calls k BJ _ _ BI true _ ?Cg ?Cm A2.out).mono ?_);(case Cg=>repeat (first|exact (Kd.bJ CU.out HB.out)|(with_reducible refine Kd.bH ?_ _)|(with_reducible refine Kd.bX ?_ _)|(with_reducible refine Kd.dA ?_)));(case Cm=>exact CV.out);rintro e FC ⟨rfl,hb⟩;refine ⟨_,rfl,?_⟩;have BS:=Aside0.mk (aJ (g:=BD) (o:=.cells #[.int .u64 BJ,.slice BO BI.length BP] 51 (0,0)) (bk_ Bw.out) hb);have BU:=Aside0.mk (aN hb_ hb);clear Bw;clear HB;have Bw:=BS;have HB:=BU;clear BS BU;(try clear hb);(try clear hb2);(try clear hk);(try clear hi);have Ep : FC.cell? ⟨BD,0,none⟩ = some (.int .u64 BJ):=(ah Bw.out 0).trans rfl;have Er : FC.cell? ⟨BD,1,none⟩ = some (.slice BO BI.length BP):=(ah Bw.out 1).trans rfl;have Es:=av Bw.out 0;have Et:=av Bw.out 1)|((with_reducible refine bG (f:=20) rfl ?_);refine dJ (some 13) rfl rfl Tryz.func20 (by kernel_rfl) rfl #[.agg #[.int .u64 BJ,.slice BO BI.length BP]] rfl (by (try simp only [List.map_toArray,List.map_cons,List.map_nil]);first|done|rfl|(simp only [List.length_drop,List.length_take];rfl)|(simp (disch:=first|omega|(simp at *;omega)) only [dK,bW,eG];rfl)) ?_;(with_reducible refine (dW.calls k BJ _ _ BI Cb BR CG _ ?Cg ?Cm A4.out).mono ?_);(case Cg=>repeat (first|exact (Kd.bJ CU.out HB.out)|(with_reducible refine Kd.bH ?_ _)|(with_reducible refine Kd.bX ?_ _)|(with_reducible refine Kd.dA ?_)));(case Cm=>exact CV.out);rintro e F9 ⟨EN,rfl,ho0,hb⟩;refine ⟨_,rfl,?_⟩;have BS:=Aside0.mk (Kd.iT (Kd.dD (ok':=fun k_=>k_ ≠ BD) ho0 (fun k_ hk_=>(Kd.kN (g:=BD) (o:=.cells #[.int .u64 BJ,.slice BO BI.length BP] 51 (0,0)) (bk_ Bw.out) k_ hk_))) (aR hb_));have BU:=Aside0.mk (aJ (g:=BD) (o:=.cells #[.int .u64 BJ,.slice BO BI.length BP] 51 (0,0)) (bk_ Bw.out) hb);have Ce:=Aside0.mk (aN hb_ hb);clear Bw;clear HB;have BG:=BS;have Bw:=BU;have HB:=Ce;clear BS BU Ce;(try clear hb);(try clear hb2);(try clear hk);(try clear hi);(try clear ho0))|((with_reducible refine bN (N:=3) rfl ?_);refine bT ?hg (N:=3) ?hd (cs:=#[.int .u64 0,.slice none 0 0]) (t:=29) ?hr ?_;(case hd=>rfl);(case hg=>rfl);(case hr=>first|(go_simp;done)|(go_simp;rfl));intro BH hg EY hbox hb;have BS:=Aside0.mk (Kd.dz (Kd.iq (kv_ BG.out) BH (Nat.le_of_eq hg.symm)) hb);have BU:=Aside0.mk (aJ (g:=BD) (o:=.cells #[.int .u64 BJ,.slice BO BI.length BP] 51 (0,0)) (bk_ Bw.out) hb);have Ce:=Aside0.mk (aN hb_ hb);have Ch:=Aside0.mk (hbox);have Cn:=Aside0.mk ((by rw [hg];exact (aR hb_) : w.heap.size ≤ BH));have Ct:=Aside0.mk ((by rw [hg];exact (aR hb_) : w.heap.size ≤ BH));have Cw:=Aside0.mk ((by rw [hg];exact Nat.ne_of_lt (aW (g:=BD) (o:=.cells #[.int .u64 BJ,.slice BO BI.length BP] 51 (0,0)) (bk_ Bw.out)) : BD ≠ BH));have CZ:=Aside0.mk ((by rw [hg];exact Nat.ne_of_gt (aW (g:=BD) (o:=.cells #[.int .u64 BJ,.slice BO BI.length BP] 51 (0,0)) (bk_ Bw.out)) : BH ≠ BD));clear BG;clear Bw;clear HB;have BG:=BS;have Bw:=BU;have HB:=Ce;have BF:=Ch;have Db:=Cn;have Dv:=Ct;have Ci:=Cw;have CK:=CZ;clear BS BU Ce Ch Cn Ct Cw CZ;clear hb hbox hg;have FD:=CK.out;have FE:=Ci.out;have Eu : EY.cell? ⟨BH,0,none⟩ = some (.int .u64 0):=(ah BF.out 0).trans rfl;have Ew : EY.cell? ⟨BH,1,none⟩ = some (.slice none 0 0):=(ah BF.out 1).trans rfl;have Ey:=av BF.out 0;have Ez:=av BF.out 1;obtain ⟨CQ,CS,EZ⟩:=Kd.gI BG.out;subst EZ)|((with_reducible refine l8 (t:=29) (p:=3) rfl ?_);refine kP (t:=29) (p:=3) (v:=?vo_w46) (w1:=((EY.setCell ⟨BH,0,none⟩ (.int .u64 Cb)).setCell ⟨BH,1,none⟩ (.slice CQ BR.length CS))) ?hg ?ho ?hn ?hr ?_;(case ho=>rfl);(case hg=>rfl);(case hn=>rfl);(case hr=>first|(go_simp;done)|(go_simp;rfl));intro Dr hw;have BS : Aside0 (Kd.V k71 71 Dr w.heap.size (fun k_=>k_ ≠ BD ∧ k_ ≠ BH) (.slice CQ BR.length CS) BR):=⟨(by rw [hw];exact (by (with_reducible repeat (first|apply Kd.gJ|apply Kd.gK|apply Kd.gH));exact Kd.dD (Kd.cK (p:=⟨BH,1,none⟩) (Kd.cK (p:=⟨BH,0,none⟩) (Kd.dD BG.out (fun k_ hk=>(⟨hk,hk.2⟩ : _ ∧ k_ ≠ BH))) (fun _ hk=>hk.2) (.int .u64 Cb)) (fun _ hk=>hk.2) (.slice CQ BR.length CS)) (fun _ hk=>⟨hk.1.1,hk.1.2⟩)))⟩;have BU : Aside0 (Dr.heap[BD]? = some (.cells #[.int .u64 BJ,.slice BO BI.length BP] 51 (0,0))):=⟨(by rw [hw];exact (by (with_reducible repeat (first|apply aj|apply ay|apply ak));refine aD ?_ Ci.out _;(with_reducible repeat (first|apply aj|apply ay|apply ak));refine aD ?_ Ci.out _;(with_reducible repeat (first|apply aj|apply ay|apply ak));exact Bw.out))⟩;have Ce : Aside0 (Dr.heap[BH]? = some (.cells #[.int .u64 Cb,.slice CQ BR.length CS] 29 (0,0))):=⟨(by rw [hw];exact (by (with_reducible repeat (first|apply aj|apply ay|apply ak));refine aQ (cs:=#[.int .u64 Cb,.slice none 0 0]) ?_ 1 _ rfl;(with_reducible repeat (first|apply aj|apply ay|apply ak));refine aQ (cs:=#[.int .u64 0,.slice none 0 0]) ?_ 0 _ rfl;(with_reducible repeat (first|apply aj|apply ay|apply ak));exact BF.out))⟩;have Ch : Aside0 (Below w.heap.size w Dr):=⟨(by rw [hw];exact hb_)⟩;clear hw;clear BG;clear Bw;clear BF;clear HB;have BG:=BS;have Bw:=BU;have BF:=Ce;have HB:=Ch;clear BS BU Ce Ch;have EA : Dr.cell? ⟨BD,0,none⟩ = some (.int .u64 BJ):=(ah Bw.out 0).trans rfl;have EB : Dr.cell? ⟨BD,1,none⟩ = some (.slice BO BI.length BP):=(ah Bw.out 1).trans rfl;have EC:=av Bw.out 0;have ED:=av Bw.out 1)|((with_reducible refine bG (f:=15) rfl ?_);refine dJ (some 18) rfl rfl Tryz.func15 (by kernel_rfl) rfl #[.agg #[.int .u64 BJ,.slice BO BI.length BP]] rfl (by (try simp only [List.map_toArray,List.map_cons,List.map_nil]);first|done|rfl|(simp only [List.length_drop,List.length_take];rfl)|(simp (disch:=first|omega|(simp at *;omega)) only [dK,bW,eG];rfl)) ?_;(with_reducible refine (dn.calls BJ (fun k_=>k_ < w.heap.size) _ _ BI C8 CW _ ?Cg A5.out).mono ?_);(case Cg=>exact Kd.mH CV.out (Kd.jQ (Kd.C_F qW CU.out) hb_));rintro e Ga ⟨ER,rfl,ho0,hb⟩;refine ⟨_,rfl,?_⟩;have BS:=Aside0.mk (Kd.dz (kv_ BG.out) hb);have BU:=Aside0.mk (Kd.iT (Kd.dD (ok':=fun k_=>k_ ≠ BD ∧ k_ ≠ BH) ho0 (fun k_ hk_=>⟨Or.elim hk_ (fun hs_=>fun e_=>Nat.not_le.2 hs_ (by rw [e_];exact C9.out)) (fun hn_=>(Kd.kN (g:=BD) (o:=.cells #[.int .u64 BJ,.slice BO BI.length BP] 51 (0,0)) (bk_ Bw.out) k_ hn_)),Or.elim hk_ (fun hs_=>fun e_=>Nat.not_le.2 hs_ (by rw [e_];exact Db.out)) (fun hn_=>(Kd.kN (g:=BH) (o:=.cells #[.int .u64 Cb,.slice CQ BR.length CS] 29 (0,0)) (bk_ BF.out) k_ hn_))⟩)) (aR hb_));have Ce:=Aside0.mk (aJ (g:=BD) (o:=.cells #[.int .u64 BJ,.slice BO BI.length BP] 51 (0,0)) (bk_ Bw.out) hb);have Ch:=Aside0.mk (aJ (g:=BH) (o:=.cells #[.int .u64 Cb,.slice CQ BR.length CS] 29 (0,0)) (bk_ BF.out) hb);have Cn:=Aside0.mk (aN hb_ hb);clear BG;clear Bw;clear BF;clear HB;have BG:=BS;have BK:=BU;have Bw:=Ce;have BF:=Ch;have HB:=Cn;clear BS BU Ce Ch Cn;(try clear hb);(try clear hb2);(try clear hk);(try clear hi);(try clear ho0);obtain ⟨DN,DR,E5⟩:=Kd.gI BK.out;subst E5)|((with_reducible refine bG (f:=21) rfl ?_);refine dJ (some 19) rfl rfl Tryz.func21 (by kernel_rfl) rfl #[.agg #[.int .u64 C8,.slice DN CW.length DR]] rfl (by (try simp only [List.map_toArray,List.map_cons,List.map_nil]);first|done|rfl|(simp only [List.length_drop,List.length_take];rfl)|(simp (disch:=first|omega|(simp at *;omega)) only [dK,bW,eG];rfl)) ?_;(with_reducible refine (aI.calls k C8 _ _ CW Ca BQ CJ _ ?Cg ?Cm A6.out).mono ?_);(case Cg=>repeat (first|exact (Kd.d9 BK.out).2.2|(with_reducible refine Kd.bH ?_ _)|(with_reducible refine Kd.bX ?_ _)|(with_reducible refine Kd.dA ?_)));(case Cm=>exact (Kd.d9 BK.out).2.1);rintro e Gb ⟨ET,rfl,ho0,hb⟩;refine ⟨_,rfl,?_⟩;have BS:=Aside0.mk (Kd.ig (kv_ BG.out) (Kd.iV ho0) hb);have BU:=Aside0.mk (Kd.ig (kv_ BK.out) (Kd.iV ho0) hb);have Ce:=Aside0.mk (Kd.lH ho0 (aR hb_));have Ch:=Aside0.mk (aJ (g:=BD) (o:=.cells #[.int .u64 BJ,.slice BO BI.length BP] 51 (0,0)) (bk_ Bw.out) hb);have Cn:=Aside0.mk (aJ (g:=BH) (o:=.cells #[.int .u64 Cb,.slice CQ BR.length CS] 29 (0,0)) (bk_ BF.out) hb);have Ct:=Aside0.mk (aN hb_ hb);clear BG;clear BK;clear Bw;clear BF;clear HB;have BG:=BS;have BK:=BU;have BN:=Ce;have Bw:=Ch;have BF:=Cn;have HB:=Ct;clear BS BU Ce Ch Cn Ct;(try clear hb);(try clear hb2);(try clear hk);(try clear hi);(try clear ho0))|((with_reducible refine bN (N:=5) rfl ?_);refine bT ?hg (N:=5) ?hd (cs:=#[.int .u64 0,.slice none 0 0]) (t:=39) ?hr ?_;(case hd=>rfl);(case hg=>rfl);(case hr=>first|(go_simp;done)|(go_simp;rfl));intro Bz hg Dj hbox hb;have BS:=Aside0.mk (Kd.dz (Kd.iq (kv_ BG.out) Bz (Nat.le_of_eq hg.symm)) hb);have BU:=Aside0.mk (Kd.dz (Kd.iq (kv_ BK.out) Bz (Nat.le_of_eq hg.symm)) hb);have Ce:=Aside0.mk (Kd.fB (by (with_reducible repeat (first|apply Kd.dw|apply Kd.dx|apply Kd.dN));exact BN.out) hb);have Ch:=Aside0.mk (aJ (g:=BD) (o:=.cells #[.int .u64 BJ,.slice BO BI.length BP] 51 (0,0)) (bk_ Bw.out) hb);have Cn:=Aside0.mk (aJ (g:=BH) (o:=.cells #[.int .u64 Cb,.slice CQ BR.length CS] 29 (0,0)) (bk_ BF.out) hb);have Ct:=Aside0.mk (aN hb_ hb);have Cw:=Aside0.mk (hbox);have CZ:=Aside0.mk ((by rw [hg];exact (aR hb_) : w.heap.size ≤ Bz));have Dy:=Aside0.mk ((by rw [hg];exact (aR hb_) : w.heap.size ≤ Bz));have Dz:=Aside0.mk ((by rw [hg];exact Nat.ne_of_lt (aW (g:=BD) (o:=.cells #[.int .u64 BJ,.slice BO BI.length BP] 51 (0,0)) (bk_ Bw.out)) : BD ≠ Bz));have Dc:=Aside0.mk ((by rw [hg];exact Nat.ne_of_gt (aW (g:=BD) (o:=.cells #[.int .u64 BJ,.slice BO BI.length BP] 51 (0,0)) (bk_ Bw.out)) : Bz ≠ BD));have Df:=Aside0.mk ((by rw [hg];exact Nat.ne_of_lt (aW (g:=BH) (o:=.cells #[.int .u64 Cb,.slice CQ BR.length CS] 29 (0,0)) (bk_ BF.out)) : BH ≠ Bz));have Dh:=Aside0.mk ((by rw [hg];exact Nat.ne_of_gt (aW (g:=BH) (o:=.cells #[.int .u64 Cb,.slice CQ BR.length CS] 29 (0,0)) (bk_ BF.out)) : Bz ≠ BH));clear BG;clear BK;clear BN;clear Bw;clear BF;clear HB;have BG:=BS;have BK:=BU;have BN:=Ce;have Bw:=Ch;have BF:=Cn;have HB:=Ct;have BL:=Cw;have DF:=CZ;have DI:=Dy;have Cj:=Dz;have CO:=Dc;have Ck:=Df;have CP:=Dh;clear BS BU Ce Ch Cn Ct Cw CZ Dy Dz Dc Df Dh;clear hb hbox hg;have FH:=CO.out;have FI:=Cj.out;have FJ:=CP.out;have FL:=Ck.out;have EF : Dj.cell? ⟨Bz,0,none⟩ = some (.int .u64 0):=(ah BL.out 0).trans rfl;have EG : Dj.cell? ⟨Bz,1,none⟩ = some (.slice none 0 0):=(ah BL.out 1).trans rfl;have EH:=av BL.out 0;have EI:=av BL.out 1;obtain ⟨CB,CF,E8⟩:=Kd.jo BN.out;subst E8))
    have BS : Aside0 (Kd.V k71 71 ((Dj.setCell ⟨Bz,0,none⟩ (.int .u64 Ca)).setCell ⟨Bz,1,none⟩ (.slice CB BQ.length CF)) w.heap.size (fun k_=>some k_ ≠ (.slice CB BQ.length CF : Value).ownBlock ∧ k_ ≠ BD ∧ k_ ≠ BH ∧ k_ ≠ Bz) (.slice CQ BR.length CS) BR):=⟨by (with_reducible repeat (first|apply Kd.gJ|apply Kd.gK|apply Kd.gH));exact Kd.dD (Kd.cK (p:=⟨Bz,1,none⟩) (Kd.cK (p:=⟨Bz,0,none⟩) (Kd.dD BG.out (fun k_ hk=>(⟨hk,hk.2⟩ : _ ∧ k_ ≠ Bz))) (fun _ hk=>hk.2) (.int .u64 Ca)) (fun _ hk=>hk.2) (.slice CB BQ.length CF)) (fun _ hk=>⟨hk.1.1.2,⟨hk.1.1.1.1,⟨hk.1.1.1.2,hk.1.2⟩⟩⟩)⟩
    have BU : Aside0 (Kd.V k96 96 ((Dj.setCell ⟨Bz,0,none⟩ (.int .u64 Ca)).setCell ⟨Bz,1,none⟩ (.slice CB BQ.length CF)) w.heap.size (fun k_=>some k_ ≠ (.slice CB BQ.length CF : Value).ownBlock ∧ k_ ≠ BD ∧ k_ ≠ BH ∧ k_ ≠ Bz) (.slice DN CW.length DR) CW):=⟨by (with_reducible repeat (first|apply Kd.gJ|apply Kd.gK|apply Kd.gH));exact Kd.dD (Kd.cK (p:=⟨Bz,1,none⟩) (Kd.cK (p:=⟨Bz,0,none⟩) (Kd.dD BK.out (fun k_ hk=>(⟨hk,hk.2⟩ : _ ∧ k_ ≠ Bz))) (fun _ hk=>hk.2) (.int .u64 Ca)) (fun _ hk=>hk.2) (.slice CB BQ.length CF)) (fun _ hk=>⟨hk.1.1.2,⟨hk.1.1.1.1,⟨hk.1.1.1.2,hk.1.2⟩⟩⟩)⟩
    have Ce : Aside0 (Kd.S k88 88 ((Dj.setCell ⟨Bz,0,none⟩ (.int .u64 Ca)).setCell ⟨Bz,1,none⟩ (.slice CB BQ.length CF)) w.heap.size (fun _=>True) (.slice CB BQ.length CF) BQ):=⟨by (with_reducible repeat (first|apply Kd.dw|apply Kd.dx|apply Kd.dN));exact Kd.fV (Kd.dB (p:=⟨Bz,1,none⟩) (Kd.dB (p:=⟨Bz,0,none⟩) (Kd.gV BN.out BL.out (by decide)) (fun _ hk=>hk.2) (.int .u64 Ca)) (fun _ hk=>hk.2) (.slice CB BQ.length CF)) (fun _ hk=>trivial)⟩
    have Ch : Aside0 (((Dj.setCell ⟨Bz,0,none⟩ (.int .u64 Ca)).setCell ⟨Bz,1,none⟩ (.slice CB BQ.length CF)).heap[BD]? = some (.cells #[.int .u64 BJ,.slice BO BI.length BP] 51 (0,0))):=⟨by (with_reducible repeat (first|apply aj|apply ay|apply ak));refine aD ?_ Cj.out _;(with_reducible repeat (first|apply aj|apply ay|apply ak));refine aD ?_ Cj.out _;(with_reducible repeat (first|apply aj|apply ay|apply ak));exact Bw.out⟩
    have Cn : Aside0 (((Dj.setCell ⟨Bz,0,none⟩ (.int .u64 Ca)).setCell ⟨Bz,1,none⟩ (.slice CB BQ.length CF)).heap[BH]? = some (.cells #[.int .u64 Cb,.slice CQ BR.length CS] 29 (0,0))):=⟨by (with_reducible repeat (first|apply aj|apply ay|apply ak));refine aD ?_ Ck.out _;(with_reducible repeat (first|apply aj|apply ay|apply ak));refine aD ?_ Ck.out _;(with_reducible repeat (first|apply aj|apply ay|apply ak));exact BF.out⟩
    have Ct : Aside0 (((Dj.setCell ⟨Bz,0,none⟩ (.int .u64 Ca)).setCell ⟨Bz,1,none⟩ (.slice CB BQ.length CF)).heap[Bz]? = some (.cells #[.int .u64 Ca,.slice CB BQ.length CF] 39 (0,0))):=⟨by (with_reducible repeat (first|apply aj|apply ay|apply ak));refine aQ (cs:=#[.int .u64 Ca,.slice none 0 0]) ?_ 1 _ rfl;(with_reducible repeat (first|apply aj|apply ay|apply ak));refine aQ (cs:=#[.int .u64 0,.slice none 0 0]) ?_ 0 _ rfl;(with_reducible repeat (first|apply aj|apply ay|apply ak));exact BL.out⟩
    have Cw : Aside0 (Below w.heap.size w ((Dj.setCell ⟨Bz,0,none⟩ (.int .u64 Ca)).setCell ⟨Bz,1,none⟩ (.slice CB BQ.length CF))):=⟨hb_⟩
    (try clear BG)
    (try clear BK)
    (try clear BN)
    (try clear Bw)
    (try clear BF)
    (try clear BL)
    (try clear HB)
    generalize ((Dj.setCell ⟨Bz,0,none⟩ (.int .u64 Ca)).setCell ⟨Bz,1,none⟩ (.slice CB BQ.length CF)) = FZ at BS BU Ce Ch Cn Ct Cw ⊢
    have BG:=BS
    have BK:=BU
    have BN:=Ce
    have Bw:=Ch
    have BF:=Cn
    have BL:=Ct
    have HB:=Cw
    clear BS BU Ce Ch Cn Ct Cw
    have BS:=Aside0.mk (Kd.gH BG.out)
    have BU:=Aside0.mk (Kd.gH BK.out)
    have Ce:=Aside0.mk (Kd.dN BN.out)
    have Ch:=Aside0.mk (ay Bw.out)
    have Cn:=Aside0.mk (ay BF.out)
    have Ct:=Aside0.mk (ay BL.out)
    have Cw:=Aside0.mk (bL HB.out)
    clear BG
    clear BK
    clear BN
    clear Bw
    clear BF
    clear BL
    clear HB
    have BG:=BS
    have BK:=BU
    have BN:=Ce
    have Bw:=Ch
    have BF:=Cn
    have BL:=Ct
    have HB:=Cw
    clear BS BU Ce Ch Cn Ct Cw
    refine gZ (n:=13) (S:=fun w'=>True) (ds:=[]) #[O,O,O,O,O,O,O,O,O,O,O,O,O] (by kernel_rfl) rfl rfl trivial (fun hHeld=>?_);refine eY bI.qB bI.mK (fun HT_ HW_=>?_)
    generalize FZ.drew = Gc at BG BK BN Bw BF BL HB hHeld ⊢
    refine fU (i:=0) (N:=some 22) #[I,O,O,O,O,O,O,O,O,O,O,O,O] rfl rfl (cO HT_.out (by kernel_rfl)) (by decide) (fun K hK=>?_)
    refine eU Tryz.func8 (by kernel_rfl) rfl #[] (by rfl) rfl rfl (by (try simp only [List.map_toArray,List.map_cons,List.map_nil]);first|done|rfl|(simp only [List.length_drop,List.length_take];rfl)) ?_
    with_reducible refine (aU.calls k  true _ A7.out (by first|assumption|exact GW.below hG (by first|exact HB.out|assumption|(repeat (first|(with_reducible first|exact HB.out|apply dG|apply bB|apply bL)|exact HB.out)))|exact GW.drawn hG (by first|assumption|(repeat (first|exact Drawn0.refl _|assumption|apply Drawn0.step))))).mono ?_
    rintro e Gd ⟨rfl,hb⟩
    refine ⟨_,rfl,?_⟩
    have BS:=Aside0.mk (Kd.dz (kv_ BG.out) hb)
    have BU:=Aside0.mk (Kd.dz (kv_ BK.out) hb)
    have Ce:=Aside0.mk (Kd.fB (by (with_reducible repeat (first|apply Kd.dw|apply Kd.dx|apply Kd.dN));exact BN.out) hb)
    have Ch:=Aside0.mk (aJ (g:=BD) (o:=.cells #[.int .u64 BJ,.slice BO BI.length BP] 51 (0,0)) (bk_ Bw.out) hb)
    have Cn:=Aside0.mk (aJ (g:=BH) (o:=.cells #[.int .u64 Cb,.slice CQ BR.length CS] 29 (0,0)) (bk_ BF.out) hb)
    have Ct:=Aside0.mk (aJ (g:=Bz) (o:=.cells #[.int .u64 Ca,.slice CB BQ.length CF] 39 (0,0)) (bk_ BL.out) hb)
    have Cw:=Aside0.mk (aN hb_ hb)
    clear BG
    clear BK
    clear BN
    clear Bw
    clear BF
    clear BL
    clear HB
    have BG:=BS
    have BK:=BU
    have BN:=Ce
    have Bw:=Ch
    have BF:=Cn
    have BL:=Ct
    have HB:=Cw
    clear BS BU Ce Ch Cn Ct Cw
    (try clear hb)
    (try clear hb2)
    (try clear hk)
    (try clear hi)
    refine hK.out _ _ trivial (fun hHeld=>?_)
    clear hK K
    refine dX (a':=?_) ?_ ?_
    rotate_left
    ·show Act.put _ (some 22) _ = _
     simp only [Act.put,List.setIfInBounds_toArray,List.set_cons_zero,List.set_cons_succ,bO,bR]
     rfl
    refine pu_ 1 23 #[I,I,O,O,O,O,O,O,O,O,O,O,O] HT_.out ?_
    refine pu_ 2 24 #[I,I,I,O,O,O,O,O,O,O,O,O,O] HT_.out ?_
    refine pu_ 3 25 #[I,I,I,I,O,O,O,O,O,O,O,O,O] HT_.out ?_
    refine pu_ 4 26 #[I,I,I,I,I,O,O,O,O,O,O,O,O] HT_.out ?_
    refine pu_ 5 27 #[I,I,I,I,I,I,O,O,O,O,O,O,O] HT_.out ?_
    refine pu_ 6 28 #[I,I,I,I,I,I,I,O,O,O,O,O,O] HT_.out ?_
    refine pz_ 7 29 #[I,I,I,I,I,I,I,I,O,O,O,O,O] HT_.out ?_
    refine pz_ 8 30 #[I,I,I,I,I,I,I,I,I,O,O,O,O] HT_.out ?_
    refine pz_ 9 31 #[I,I,I,I,I,I,I,I,I,I,O,O,O] HT_.out ?_
    refine pz_ 10 32 #[I,I,I,I,I,I,I,I,I,I,I,O,O] HT_.out ?_
    refine pu_ 11 33 #[I,I,I,I,I,I,I,I,I,I,I,I,O] HT_.out ?_
    refine pu_ 12 2 #[I,I,I,I,I,I,I,I,I,I,I,I,I] HT_.out ?_
    refine iZ (gD HT_.out (by kernel_rfl)) ?_
    try go_wp2
    go_ret
    exact ⟨by first|rfl|(simp [bg,bA] <;> rfl)|(simp [*,bg,bA] <;> rfl),hb_⟩
  ·replace c8:=Bool.eq_false_iff.mpr c8
   subst c8
   have H1 : (some false) = some r:=by rw [if_neg (show ¬ (false = true) by decide)] at H;exact H
   clear H
   have H:=H1
   clear H1
   exact absurd ((Option.some.inj H).trans HTr.out) (by decide)
 ·replace c3:=Bool.eq_false_iff.mpr c3
  subst c3
  have H1 : ((aU.f k).bind fun CX=>(some CX)) = some r:=by rw [if_neg (show ¬ (false = true) by decide)] at H;exact H
  clear H
  have H:=H1
  clear H1
  replace H:=Option.bind_eq_some_iff.mp H
  obtain ⟨CX,DT,H⟩:=H
  replace H : (some CX) = some r:=H
  have F3:=Aside0.mk DT
  clear DT
  obtain rfl:=Option.some.inj H
  go_enter Tryz.func4,Tryz.ntmps4
  go_wp2_with (first|((with_reducible refine bN (N:=1) rfl ?_);refine bT ?hg (N:=1) ?hd (cs:=#[.int .u64 BJ,.slice BO BI.length BP]) (t:=51) ?hr ?_;(case hd=>rfl);(case hg=>rfl);(case hr=>first|(go_simp;done)|(go_simp;rfl));intro BD hg FM hbox hb;have BS:=Aside0.mk (aN hb_ hb);have BU:=Aside0.mk (hbox);have Ce:=Aside0.mk ((by rw [hg];exact (aR hb_) : w.heap.size ≤ BD));have Ch:=Aside0.mk ((by rw [hg];exact (aR hb_) : w.heap.size ≤ BD));clear HB;have HB:=BS;have Bw:=BU;have C9:=Ce;have Dp:=Ch;clear BS BU Ce Ch;clear hb hbox hg;have EJ : FM.cell? ⟨BD,0,none⟩ = some (.int .u64 BJ):=(ah Bw.out 0).trans rfl;have EK : FM.cell? ⟨BD,1,none⟩ = some (.slice BO BI.length BP):=(ah Bw.out 1).trans rfl;have EL:=av Bw.out 0;have EM:=av Bw.out 1)|((with_reducible refine bG (f:=19) rfl ?_);refine dJ (some 8) rfl rfl Tryz.func19 (by kernel_rfl) rfl #[.agg #[.int .u64 BJ,.slice BO BI.length BP]] rfl (by (try simp only [List.map_toArray,List.map_cons,List.map_nil]);first|done|rfl|(simp only [List.length_drop,List.length_take];rfl)|(simp (disch:=first|omega|(simp at *;omega)) only [dK,bW,eG];rfl)) ?_;(with_reducible refine (aX.calls k BJ _ _ BI false _ ?Cg ?Cm A2.out).mono ?_);(case Cg=>repeat (first|exact (Kd.bJ CU.out HB.out)|(with_reducible refine Kd.bH ?_ _)|(with_reducible refine Kd.bX ?_ _)|(with_reducible refine Kd.dA ?_)));(case Cm=>exact CV.out);rintro e Gf ⟨rfl,hb⟩;refine ⟨_,rfl,?_⟩;have BS:=Aside0.mk (aJ (g:=BD) (o:=.cells #[.int .u64 BJ,.slice BO BI.length BP] 51 (0,0)) (bk_ Bw.out) hb);have BU:=Aside0.mk (aN hb_ hb);clear Bw;clear HB;have Bw:=BS;have HB:=BU;clear BS BU;(try clear hb);(try clear hb2);(try clear hk);(try clear hi))|((with_reducible refine bG (f:=8) rfl ?_);refine dJ (some 10) rfl rfl Tryz.func8 (by kernel_rfl) rfl #[] rfl (by (try simp only [List.map_toArray,List.map_cons,List.map_nil]);first|done|rfl|(simp only [List.length_drop,List.length_take];rfl)|(simp (disch:=first|omega|(simp at *;omega)) only [dK,bW,eG];rfl)) ?_;(with_reducible refine (aU.calls k  CX _ F3.out (by first|assumption|exact GW.below hG (by first|exact HB.out|assumption|(repeat (first|(with_reducible first|exact HB.out|apply dG|apply bB|apply bL)|exact HB.out)))|exact GW.drawn hG (by first|assumption|(repeat (first|exact Drawn0.refl _|assumption|apply Drawn0.step))))).mono ?_);rintro e Gg ⟨rfl,hb⟩;refine ⟨_,rfl,?_⟩;have BS:=Aside0.mk (aJ (g:=BD) (o:=.cells #[.int .u64 BJ,.slice BO BI.length BP] 51 (0,0)) (bk_ Bw.out) hb);have BU:=Aside0.mk (aN hb_ hb);clear Bw;clear HB;have Bw:=BS;have HB:=BU;clear BS BU;(try clear hb);(try clear hb2);(try clear hk);(try clear hi)))
  go_ret
  exact ⟨by first|rfl|(simp [bg,bA] <;> rfl)|(simp [*,bg,bA] <;> rfl),hb_⟩
end Go.Proofs.YtpncpefppifgdaaGreatDoor.GUt
