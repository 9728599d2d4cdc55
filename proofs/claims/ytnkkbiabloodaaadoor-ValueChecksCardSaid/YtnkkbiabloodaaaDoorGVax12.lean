/- Written by this session's own program (wip/gen.py) out of the translation: plain Lean functions of the Go functions, and proofs that the calls come to their answers. No conditions beside those in the statements. -/
import Derived.Test.YtnkkbiabloodaaaDoorGVax0
import Derived.Test.YtnkkbiabloodaaaDoorGVax9
import Derived.Test.YtnkkbiabloodaaaDoorGVax11
namespace Go.Proofs.YtnkkbiabloodaaaDoor.GVa
open Go.RowKit Go.Proofs.YtnkkbiabloodaaaDoorW.PrintWords Go.Proofs.YtnkkbiabloodaaaDoorW.PrintLast Go.Proofs.YtnkkbiabloodaaaDoorW.PrintMore
attribute [local go_sem] eG eH fK fM dZ d9 eO eP
set_option linter.unusedVariables false
set_option linter.unusedSimpArgs false
def cZ.f (k : Nat) (xX : Int) (xY : Bool) (xZ : Int) (yc : ByteArray) (xV : List (S33)) (xW : List (S50)) : Option (Int):=(aV.f k xX xY xZ yc xV xW).bind fun t218=>(if t218 > 32 then (some 9) else ((aI.f k xX xY xZ yc xV xW).bind fun yw=>(some yw)))
theorem cZ.mono : ∀ a0 a1 a2 a3 a4 a5 k,LeO (cZ.f k a0 a1 a2 a3 a4 a5) (cZ.f (k + 1) a0 a1 a2 a3 a4 a5):=by
 intro a0 a1 a2 a3 a4 a5 k
 unfold cZ.f
 repeat' first
   | (with_reducible exact aV.mono _ _ _ _ _ _ _)
   | (with_reducible exact aI.mono _ _ _ _ _ _ _)
   | (with_reducible exact LeO.refl _)
   | (with_reducible exact LeO.none _)
   | (with_reducible refine LeO.ite ?_ ?_)
   | (with_reducible refine LeO.bind ?_ (fun _=>?_))
   | exact aV.mono _ _ _ _ _ _ _
   | exact aI.mono _ _ _ _ _ _ _
   | exact LeO.none _
   | refine LeO.ite ?_ ?_
   | refine LeO.bind ?_ (fun _=>?_)
set_option maxHeartbeats 8000000 in
set_option maxRecDepth 100000 in
theorem cZ.calls (k : Nat) (xX : Int) (xY : Bool) (xZ : Int) (yc : ByteArray) (yg : Option Addr) (yh : Nat) (xV : List (S33)) (yj : Option Addr) (yt : Nat) (xW : List (S50)) (r : Int) (w : World) (yJ : Kd.C k33 w yg xV.length xV) (yK : xV.length ≤ yh) (yL : Kd.C k50 w yj xW.length xW) (yM : xW.length ≤ yt) (h : cZ.f k xX xY xZ yc xV xW = some r) :
  Calls Tryd.prog 21 #[.agg #[.int .i64 xX,.bool xY,.int .i64 xZ,.string yc,.slice yg xV.length yh,.slice yj xW.length yt]] w fun e w'=>e = .returned (.int .i64 r) ∧ Below w.heap.size w w':=by
 have zQ:=Tryd.underlying33
 have yF:=Aside0.mk yJ
 have yG:=Aside0.mk yK
 clear yJ yK
 have yH:=Aside0.mk yL
 have yI:=Aside0.mk yM
 clear yL yM
 have HB:=Aside0.mk (Below.refl w.heap.size w)
 have H : ((aV.f k xX xY xZ yc xV xW).bind fun t218=>(if t218 > 32 then (some 9) else ((aI.f k xX xY xZ yc xV xW).bind fun yw=>(some yw)))) = some r:=h
 clear h
 replace H:=Option.bind_eq_some_iff.mp H
 obtain ⟨t218,zO,H⟩:=H
 replace H : (if t218 > 32 then (some 9) else ((aI.f k xX xY xZ yc xV xW).bind fun yw=>(some yw))) = some r:=H
 have A2:=Aside0.mk zO
 clear zO
 by_cases c3 : t218 > 32
 ·rw [if_pos c3] at H
  have c3b0 : decide (32 < t218) = true:=decide_eq_true c3
  clear c3
  obtain rfl:=Option.some.inj H
  go_enter Tryd.func21,Tryd.ntmps21
  go_wp2_with (first|((with_reducible refine bV (N:=1) rfl ?_);refine bT ?hg (N:=1) ?hd (cs:=#[.int .i64 xX,.bool xY,.int .i64 xZ,.string yc,.slice yg xV.length yh,.slice yj xW.length yt]) (t:=33) ?hr ?_;(case hd=>rfl);(case hg=>rfl);(case hr=>first|(go_simp;done)|(go_simp;rfl));intro xU hg w4 hbox hb;have yD:=Aside0.mk (aT (by repeat (first|(with_reducible first|exact HB.out|apply av|apply ak|apply au)|exact HB.out)) hb);have yE:=Aside0.mk (hbox);have yO:=Aside0.mk ((by rw [hg];exact (aM (by repeat (first|(with_reducible first|exact HB.out|apply av|apply ak|apply au)|exact HB.out))) : w.heap.size ≤ xU));have yP:=Aside0.mk ((by rw [hg];exact (aM (by repeat (first|(with_reducible first|exact HB.out|apply av|apply ak|apply au)|exact HB.out))) : w.heap.size ≤ xU));clear HB;have HB:=yD;have xS:=yE;have yQ:=yO;have yu:=yP;clear yD yE yO yP;clear hb hbox hg;have zi : w4.cell? ⟨xU,0,none⟩ = some (.int .i64 xX):=(ah xS.out 0).trans rfl;have zk : w4.cell? ⟨xU,1,none⟩ = some (.bool xY):=(ah xS.out 1).trans rfl;have zl : w4.cell? ⟨xU,2,none⟩ = some (.int .i64 xZ):=(ah xS.out 2).trans rfl;have zm : w4.cell? ⟨xU,3,none⟩ = some (.string yc):=(ah xS.out 3).trans rfl;have zn : w4.cell? ⟨xU,4,none⟩ = some (.slice yg xV.length yh):=(ah xS.out 4).trans rfl;have zo : w4.cell? ⟨xU,5,none⟩ = some (.slice yj xW.length yt):=(ah xS.out 5).trans rfl;have zq:=aj xS.out 0;have zu:=aj xS.out 1;have zw:=aj xS.out 2;have zx:=aj xS.out 3;have zy:=aj xS.out 4;have zA:=aj xS.out 5)|((with_reducible refine bW (f:=23) rfl ?_);refine dJ (some 4) rfl rfl Tryd.func23 (by kernel_rfl) rfl #[.agg #[.int .i64 xX,.bool xY,.int .i64 xZ,.string yc,.slice yg xV.length yh,.slice yj xW.length yt]] rfl (by (try simp only [List.map_toArray,List.map_cons,List.map_nil]);first|done|rfl|(simp only [List.length_drop,List.length_take];rfl)|(simp (disch:=first|omega|(simp at *;omega)) only [dF,dA,dV];rfl)) ?_;(with_reducible refine (aV.calls k xX xY xZ yc _ _ xV _ _ xW t218 _ ?yx ?yA ?yB ?yC A2.out).mono ?_);(case yx=>repeat (first|exact (Kd.bO yF.out HB.out)|(with_reducible refine Kd.bJ ?_ _)|(with_reducible refine Kd.bL ?_ _)|(with_reducible refine Kd.bS ?_)));(case yA=>exact yG.out);(case yB=>repeat (first|exact (Kd.bO yH.out HB.out)|(with_reducible refine Kd.bJ ?_ _)|(with_reducible refine Kd.bL ?_ _)|(with_reducible refine Kd.bS ?_)));(case yC=>exact yI.out);rintro e w6 ⟨rfl,hb⟩;refine ⟨_,rfl,?_⟩;have yD:=Aside0.mk (aU (g:=xU) (o:=.cells #[.int .i64 xX,.bool xY,.int .i64 xZ,.string yc,.slice yg xV.length yh,.slice yj xW.length yt] 33 (0,0)) (bk_ xS.out) hb);have yE:=Aside0.mk (aT (by repeat (first|(with_reducible first|exact HB.out|apply av|apply ak|apply au|refine aD ?_ yu.out)|exact HB.out)) hb);clear xS;clear HB;have xS:=yD;have HB:=yE;clear yD yE;(try clear hb);(try clear hb2);(try clear hk);(try clear hi)))
  go_ret
  exact ⟨by first|rfl|(simp [bg,bn] <;> rfl)|(simp [*,bg,bn] <;> rfl),by repeat (first|(with_reducible first|exact HB.out|apply av|apply ak|apply au|refine aD ?_ yu.out)|exact HB.out)⟩
 ·rw [if_neg c3] at H
  have c3b0 : decide (32 < t218) = false:=decide_eq_false c3
  clear c3
  replace H:=Option.bind_eq_some_iff.mp H
  obtain ⟨yw,zP,H⟩:=H
  replace H : (some yw) = some r:=H
  have A7:=Aside0.mk zP
  clear zP
  obtain rfl:=Option.some.inj H
  go_enter Tryd.func21,Tryd.ntmps21
  go_wp2_with (first|((with_reducible refine bV (N:=1) rfl ?_);refine bT ?hg (N:=1) ?hd (cs:=#[.int .i64 xX,.bool xY,.int .i64 xZ,.string yc,.slice yg xV.length yh,.slice yj xW.length yt]) (t:=33) ?hr ?_;(case hd=>rfl);(case hg=>rfl);(case hr=>first|(go_simp;done)|(go_simp;rfl));intro xU hg w8 hbox hb;have yD:=Aside0.mk (aT (by repeat (first|(with_reducible first|exact HB.out|apply av|apply ak|apply au)|exact HB.out)) hb);have yE:=Aside0.mk (hbox);have yO:=Aside0.mk ((by rw [hg];exact (aM (by repeat (first|(with_reducible first|exact HB.out|apply av|apply ak|apply au)|exact HB.out))) : w.heap.size ≤ xU));have yP:=Aside0.mk ((by rw [hg];exact (aM (by repeat (first|(with_reducible first|exact HB.out|apply av|apply ak|apply au)|exact HB.out))) : w.heap.size ≤ xU));clear HB;have HB:=yD;have xS:=yE;have yQ:=yO;have yu:=yP;clear yD yE yO yP;clear hb hbox hg;have zB : w8.cell? ⟨xU,0,none⟩ = some (.int .i64 xX):=(ah xS.out 0).trans rfl;have zC : w8.cell? ⟨xU,1,none⟩ = some (.bool xY):=(ah xS.out 1).trans rfl;have zD : w8.cell? ⟨xU,2,none⟩ = some (.int .i64 xZ):=(ah xS.out 2).trans rfl;have zF : w8.cell? ⟨xU,3,none⟩ = some (.string yc):=(ah xS.out 3).trans rfl;have zG : w8.cell? ⟨xU,4,none⟩ = some (.slice yg xV.length yh):=(ah xS.out 4).trans rfl;have zH : w8.cell? ⟨xU,5,none⟩ = some (.slice yj xW.length yt):=(ah xS.out 5).trans rfl;have zI:=aj xS.out 0;have zJ:=aj xS.out 1;have zK:=aj xS.out 2;have zL:=aj xS.out 3;have zM:=aj xS.out 4;have zN:=aj xS.out 5)|((with_reducible refine bW (f:=23) rfl ?_);refine dJ (some 4) rfl rfl Tryd.func23 (by kernel_rfl) rfl #[.agg #[.int .i64 xX,.bool xY,.int .i64 xZ,.string yc,.slice yg xV.length yh,.slice yj xW.length yt]] rfl (by (try simp only [List.map_toArray,List.map_cons,List.map_nil]);first|done|rfl|(simp only [List.length_drop,List.length_take];rfl)|(simp (disch:=first|omega|(simp at *;omega)) only [dF,dA,dV];rfl)) ?_;(with_reducible refine (aV.calls k xX xY xZ yc _ _ xV _ _ xW t218 _ ?yx ?yA ?yB ?yC A2.out).mono ?_);(case yx=>repeat (first|exact (Kd.bO yF.out HB.out)|(with_reducible refine Kd.bJ ?_ _)|(with_reducible refine Kd.bL ?_ _)|(with_reducible refine Kd.bS ?_)));(case yA=>exact yG.out);(case yB=>repeat (first|exact (Kd.bO yH.out HB.out)|(with_reducible refine Kd.bJ ?_ _)|(with_reducible refine Kd.bL ?_ _)|(with_reducible refine Kd.bS ?_)));(case yC=>exact yI.out);rintro e yN ⟨rfl,hb⟩;refine ⟨_,rfl,?_⟩;have yD:=Aside0.mk (aU (g:=xU) (o:=.cells #[.int .i64 xX,.bool xY,.int .i64 xZ,.string yc,.slice yg xV.length yh,.slice yj xW.length yt] 33 (0,0)) (bk_ xS.out) hb);have yE:=Aside0.mk (aT (by repeat (first|(with_reducible first|exact HB.out|apply av|apply ak|apply au|refine aD ?_ yu.out)|exact HB.out)) hb);clear xS;clear HB;have xS:=yD;have HB:=yE;clear yD yE;(try clear hb);(try clear hb2);(try clear hk);(try clear hi);have yR : yN.cell? ⟨xU,0,none⟩ = some (.int .i64 xX):=(ah xS.out 0).trans rfl;have yS : yN.cell? ⟨xU,1,none⟩ = some (.bool xY):=(ah xS.out 1).trans rfl;have yT : yN.cell? ⟨xU,2,none⟩ = some (.int .i64 xZ):=(ah xS.out 2).trans rfl;have yU : yN.cell? ⟨xU,3,none⟩ = some (.string yc):=(ah xS.out 3).trans rfl;have yV : yN.cell? ⟨xU,4,none⟩ = some (.slice yg xV.length yh):=(ah xS.out 4).trans rfl;have yX : yN.cell? ⟨xU,5,none⟩ = some (.slice yj xW.length yt):=(ah xS.out 5).trans rfl;have yY:=aj xS.out 0;have yZ:=aj xS.out 1;have za:=aj xS.out 2;have ze:=aj xS.out 3;have zf:=aj xS.out 4;have zh:=aj xS.out 5)|((with_reducible refine bW (f:=35) rfl ?_);refine dJ (some 7) rfl rfl Tryd.func35 (by kernel_rfl) rfl #[.agg #[.int .i64 xX,.bool xY,.int .i64 xZ,.string yc,.slice yg xV.length yh,.slice yj xW.length yt]] rfl (by (try simp only [List.map_toArray,List.map_cons,List.map_nil]);first|done|rfl|(simp only [List.length_drop,List.length_take];rfl)|(simp (disch:=first|omega|(simp at *;omega)) only [dF,dA,dV];rfl)) ?_;(with_reducible refine (aI.calls k xX xY xZ yc _ _ xV _ _ xW yw _ ?yx ?yA ?yB ?yC A7.out).mono ?_);(case yx=>repeat (first|exact (Kd.bO yF.out HB.out)|(with_reducible refine Kd.bJ ?_ _)|(with_reducible refine Kd.bL ?_ _)|(with_reducible refine Kd.bS ?_)));(case yA=>exact yG.out);(case yB=>repeat (first|exact (Kd.bO yH.out HB.out)|(with_reducible refine Kd.bJ ?_ _)|(with_reducible refine Kd.bL ?_ _)|(with_reducible refine Kd.bS ?_)));(case yC=>exact yI.out);rintro e zR ⟨rfl,hb⟩;refine ⟨_,rfl,?_⟩;have yD:=Aside0.mk (aU (g:=xU) (o:=.cells #[.int .i64 xX,.bool xY,.int .i64 xZ,.string yc,.slice yg xV.length yh,.slice yj xW.length yt] 33 (0,0)) (bk_ xS.out) hb);have yE:=Aside0.mk (aT (by repeat (first|(with_reducible first|exact HB.out|apply av|apply ak|apply au|refine aD ?_ yu.out)|exact HB.out)) hb);clear xS;clear HB;have xS:=yD;have HB:=yE;clear yD yE;(try clear hb);(try clear hb2);(try clear hk);(try clear hi)))
  go_ret
  exact ⟨by first|rfl|(simp [bg,bn] <;> rfl)|(simp [*,bg,bn] <;> rfl),by repeat (first|(with_reducible first|exact HB.out|apply av|apply ak|apply au|refine aD ?_ yu.out)|exact HB.out)⟩
end Go.Proofs.YtnkkbiabloodaaaDoor.GVa
