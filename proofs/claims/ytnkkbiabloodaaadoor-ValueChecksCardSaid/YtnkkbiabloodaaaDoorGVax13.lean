/- Written by this session's own program (wip/gen.py) out of the translation: plain Lean functions of the Go functions, and proofs that the calls come to their answers. No conditions beside those in the statements. -/
import Derived.Test.YtnkkbiabloodaaaDoorGVax0
import Derived.Test.YtnkkbiabloodaaaDoorGVax1
import Derived.Test.YtnkkbiabloodaaaDoorGVax3
import Derived.Test.YtnkkbiabloodaaaDoorGVax6
import Derived.Test.YtnkkbiabloodaaaDoorGVax8
import Derived.Test.YtnkkbiabloodaaaDoorGVax9
import Derived.Test.YtnkkbiabloodaaaDoorGVax12
import Derived.Test.YtnkkbiabloodaaaDoorGVaBuild
import Derived.Test.YtnkkbiabloodaaaDoorGVaSame
import Derived.Test.YtnkkbiabloodaaaDoorGW
namespace Go.Proofs.YtnkkbiabloodaaaDoor.GVa
open Go.RowKit Go.Proofs.YtnkkbiabloodaaaDoorW.PrintWords Go.Proofs.YtnkkbiabloodaaaDoorW.PrintLast Go.Proofs.YtnkkbiabloodaaaDoorW.PrintMore
attribute [local go_sem] eG eH fK fM dZ d9 eO eP
set_option linter.unusedVariables false
set_option linter.unusedSimpArgs false
def aY.j0 : Nat → List (S75) → List (S75) → Bool → Option (Bool)
 | 0,_,_,_=>none
 | k + 1,x0,x1,DL=>if DL = true then ((cO.f k).bind fun t222=>(some t222)) else ((bC.f x0).bind fun xY=>((bC.f x1).bind fun yK=>((cO.f k).bind fun Ao=>(if Ao = true then ((bQ.f k xY.1 xY.2.1 xY.2.2.1 xY.2.2.2.1 xY.2.2.2.2.1 xY.2.2.2.2.2.1).bind fun Ag=>((cZ.f k xY.2.2.2.2.2.2.1 xY.2.2.2.2.2.2.2.1 xY.2.2.2.2.2.2.2.2.1 xY.2.2.2.2.2.2.2.2.2.1 xY.2.2.2.2.2.2.2.2.2.2.1 xY.2.2.2.2.2.2.2.2.2.2.2).bind fun Ad=>(if Ag = Ad then ((aN.f k xY.1 xY.2.1 xY.2.2.1 xY.2.2.2.1 xY.2.2.2.2.1 xY.2.2.2.2.2.1).bind fun zU=>((aV.f k xY.2.2.2.2.2.2.1 xY.2.2.2.2.2.2.2.1 xY.2.2.2.2.2.2.2.2.1 xY.2.2.2.2.2.2.2.2.2.1 xY.2.2.2.2.2.2.2.2.2.2.1 xY.2.2.2.2.2.2.2.2.2.2.2).bind fun zT=>(if zU = zT then ((bI.f k xY.1 xY.2.1 xY.2.2.1 xY.2.2.2.1 xY.2.2.2.2.1 xY.2.2.2.2.2.1 yK.1 yK.2.1 yK.2.2.1 yK.2.2.2.1 yK.2.2.2.2.1 yK.2.2.2.2.2.1).bind fun zG=>((aJ.f k xY.2.2.2.2.2.2.1 xY.2.2.2.2.2.2.2.1 xY.2.2.2.2.2.2.2.2.1 xY.2.2.2.2.2.2.2.2.2.1 xY.2.2.2.2.2.2.2.2.2.2.1 xY.2.2.2.2.2.2.2.2.2.2.2 yK.2.2.2.2.2.2.1 yK.2.2.2.2.2.2.2.1 yK.2.2.2.2.2.2.2.2.1 yK.2.2.2.2.2.2.2.2.2.1 yK.2.2.2.2.2.2.2.2.2.2.1 yK.2.2.2.2.2.2.2.2.2.2.2).bind fun zF=>(if (zG == zF) = true then ((bI.f k xY.1 xY.2.1 xY.2.2.1 xY.2.2.2.1 xY.2.2.2.2.1 xY.2.2.2.2.2.1 xY.1 xY.2.1 xY.2.2.1 xY.2.2.2.1 xY.2.2.2.2.1 xY.2.2.2.2.2.1).bind fun zS=>(some zS)) else (some false)))) else (some false)))) else (some false)))) else (some false)))))
def aY.f (k : Nat) (l0 : List (S75)) (l1 : List (S75)) : Option (Bool):=(bN.f k l0).bind fun AA=>(if AA = true then ((bN.f k l1).bind fun Am=>(aY.j0 k l0 l1 (!Am))) else (aY.j0 k l0 l1 true))
theorem aY.eu : ∀ k,(∀ y0 y1 y2,LeO (aY.j0 k y0 y1 y2) (aY.j0 (k + 1) y0 y1 y2))
 | 0=>fun _ _ _ r h=>by simp [aY.j0] at h
 | k + 1=>by
  have Bl:=aY.eu k
  ·intro y0 y1 y2
   unfold aY.j0
   repeat' first
   | (with_reducible exact Bl _ _ _)
   | (with_reducible exact cO.mono _)
   | (with_reducible exact bN.mono _ _)
   | (with_reducible exact cZ.mono _ _ _ _ _ _ _)
   | (with_reducible exact aV.mono _ _ _ _ _ _ _)
   | (with_reducible exact aJ.mono _ _ _ _ _ _ _ _ _ _ _ _ _)
   | (with_reducible exact bQ.mono _ _ _ _ _ _ _)
   | (with_reducible exact aN.mono _ _ _ _ _ _ _)
   | (with_reducible exact bI.mono _ _ _ _ _ _ _ _ _ _ _ _ _)
   | (with_reducible exact LeO.refl _)
   | (with_reducible exact LeO.none _)
   | (with_reducible refine LeO.ite ?_ ?_)
   | (with_reducible refine LeO.bind ?_ (fun _=>?_))
   | exact Bl _ _ _
   | exact cO.mono _
   | exact bN.mono _ _
   | exact cZ.mono _ _ _ _ _ _ _
   | exact aV.mono _ _ _ _ _ _ _
   | exact aJ.mono _ _ _ _ _ _ _ _ _ _ _ _ _
   | exact bQ.mono _ _ _ _ _ _ _
   | exact aN.mono _ _ _ _ _ _ _
   | exact bI.mono _ _ _ _ _ _ _ _ _ _ _ _ _
   | exact LeO.none _
   | refine LeO.ite ?_ ?_
   | refine LeO.bind ?_ (fun _=>?_)
theorem aY.mono : ∀ a0 a1 k,LeO (aY.f k a0 a1) (aY.f (k + 1) a0 a1):=by
 intro a0 a1 k
 have Bl:=aY.eu k
 unfold aY.f
 repeat' first
   | (with_reducible exact Bl _ _ _)
   | (with_reducible exact cO.mono _)
   | (with_reducible exact bN.mono _ _)
   | (with_reducible exact cZ.mono _ _ _ _ _ _ _)
   | (with_reducible exact aV.mono _ _ _ _ _ _ _)
   | (with_reducible exact aJ.mono _ _ _ _ _ _ _ _ _ _ _ _ _)
   | (with_reducible exact bQ.mono _ _ _ _ _ _ _)
   | (with_reducible exact aN.mono _ _ _ _ _ _ _)
   | (with_reducible exact bI.mono _ _ _ _ _ _ _ _ _ _ _ _ _)
   | (with_reducible exact LeO.refl _)
   | (with_reducible exact LeO.none _)
   | (with_reducible refine LeO.ite ?_ ?_)
   | (with_reducible refine LeO.bind ?_ (fun _=>?_))
   | exact Bl _ _ _
   | exact cO.mono _
   | exact bN.mono _ _
   | exact cZ.mono _ _ _ _ _ _ _
   | exact aV.mono _ _ _ _ _ _ _
   | exact aJ.mono _ _ _ _ _ _ _ _ _ _ _ _ _
   | exact bQ.mono _ _ _ _ _ _ _
   | exact aN.mono _ _ _ _ _ _ _
   | exact bI.mono _ _ _ _ _ _ _ _ _ _ _ _ _
   | exact LeO.none _
   | refine LeO.ite ?_ ?_
   | refine LeO.bind ?_ (fun _=>?_)
def aY.T5 : Bool × List (List Nat × List Nat):=(true,[([],[]),([0,0],[0]),([1],[1]),([2,1,1],[1,2]),([1],[1]),([4,3,1],[1,4]),([3,5,1],[1,3,5]),([1,6],[1,6]),([7,5],[7]),([8],[8]),([9,8,8],[8,9]),([8],[8]),([11,10,8],[8,11]),([10,12,8],[8,10,12]),([8,13],[8,13]),([14,12],[14]),([15],[15]),([15],[15]),([16,17,15,15],[15,16,17]),([15],[15]),([15],[15]),([19,20,18,15],[15,19,20]),([18,21,15],[15,18,21]),([15,22],[15,22]),([23,21],[23]),([24],[24]),([24],[24]),([25,26,24,24],[24,25,26]),([24,27],[24,27]),([28,27,0,1,2,3,4,5,6,7,8,9,10,11,12,13,14,15,16,17,18,19,20,21,22,23,24,25,26,27,28],[28])])
def aY.B5 : List Nat:=[0,1,3,7,3,31,63,127,255,511,1023,511,4095,8191,16383,32767,65535,65535,262143,65535,65535,2097151,4194303,8388607,16777215,33554431,33554431,134217727,268435455,536870911]
theorem aY.xO : iA .any (opsOf Tryd.f4 5) = aY.T5:=by kernel_rfl
theorem aY.wW : gQ aY.T5.2 aY.B5 = true:=by kernel_rfl
set_option maxHeartbeats 8000000 in
set_option maxRecDepth 100000 in
theorem aY.calls (k : Nat) (A0 : Option Addr) (c0 : Nat) (l0 : List (S75)) (A1 : Option Addr) (c1 : Nat) (l1 : List (S75)) (r : Bool) (w : World) (hr0 : Kd.C k75 w A0 l0.length l0) (hc0 : l0.length ≤ c0) (hr1 : Kd.C k75 w A1 l1.length l1) (hc1 : l1.length ≤ c1) (h : aY.f k l0 l1 = some r) (hG : GW.GW w) (hT : r = true) :
  Calls Tryd.prog 4 #[.slice A0 l0.length c0,.slice A1 l1.length c1] w fun e w'=>e = .returned (.bool r) ∧ Below w.heap.size w w':=by
 have HTr:=Aside0.mk hT
 clear hT
 have DN:=Tryd.underlying29
 have DR:=Tryd.underlying33
 have CY:=Aside0.mk hr0
 have CZ:=Aside0.mk hc0
 clear hr0 hc0
 have HR1:=Aside0.mk hr1
 have Dk:=Aside0.mk hc1
 clear hr1 hc1
 have HB:=Aside0.mk (Below.refl w.heap.size w)
 have H : ((bN.f k l0).bind fun AA=>(if AA = true then ((bN.f k l1).bind fun Am=>(aY.j0 k l0 l1 (!Am))) else (aY.j0 k l0 l1 true))) = some r:=h
 clear h
 have C8:=Aside0.mk H
 clear H
 go_enter Tryd.func4,Tryd.ntmps4
 go_upto_region 1 with (fail)
 go_cut [16] (fun v16 wc=>∃ (kq : Nat) (Av : Bool),v16 = .bool Av ∧ Aside0 (aY.j0 kq l0 l1 Av = some r) ∧ Aside0 (kq ≤ k) ∧ Aside0 (Below w.heap.size w wc))
 case first =>
  have H:=C8.out
  clear C8
  replace H:=Option.bind_eq_some_iff.mp H
  obtain ⟨AA,Dl,H⟩:=H
  replace H : (if AA = true then ((bN.f k l1).bind fun Am=>(aY.j0 k l0 l1 (!Am))) else (aY.j0 k l0 l1 true)) = some r:=H
  have A4:=Aside0.mk Dl
  clear Dl
  by_cases c5 : AA = true
  ·subst c5
   have H1 : ((bN.f k l1).bind fun Am=>(aY.j0 k l0 l1 (!Am))) = some r:=by rw [if_pos rfl] at H;exact H
   clear H
   have H:=H1
   clear H1
   replace H:=Option.bind_eq_some_iff.mp H
   obtain ⟨Am,Dm,H⟩:=H
   replace H : (aY.j0 k l0 l1 (!Am)) = some r:=H
   have A6:=Aside0.mk Dm
   clear Dm
   have H':=Aside0.mk H
   clear H
   go_wp2_with (first|((with_reducible refine bW (f:=8) rfl ?_);refine dJ (some 10) rfl rfl Tryd.func8 (by kernel_rfl) rfl #[.slice A0 l0.length c0] rfl (by (try simp only [List.map_toArray,List.map_cons,List.map_nil]);first|done|rfl|(simp only [List.length_drop,List.length_take];rfl)|(simp (disch:=first|omega|(simp at *;omega)) only [dF,dA,dV];rfl)) ?_;(with_reducible refine (bN.calls k _ _ l0 true _ ?zk ?zl A4.out).mono ?_);(case zk=>repeat (first|exact (Kd.bO CY.out HB.out)|(with_reducible refine Kd.bJ ?_ _)|(with_reducible refine Kd.bL ?_ _)|(with_reducible refine Kd.bS ?_)));(case zl=>exact CZ.out);rintro e w7 ⟨rfl,hb⟩;refine ⟨_,rfl,?_⟩;have zJ:=Aside0.mk (aT (by repeat (first|(with_reducible first|exact HB.out|apply av|apply ak|apply au)|exact HB.out)) hb);clear HB;have HB:=zJ;clear zJ;(try clear hb);(try clear hb2);(try clear hk);(try clear hi))|(go_at_call 8;(with_reducible refine (bN.calls k _ _ l1 Am _ ?zk ?zl A6.out).mono ?_);(case zk=>repeat (first|exact (Kd.bO HR1.out HB.out)|(with_reducible refine Kd.bJ ?_ _)|(with_reducible refine Kd.bL ?_ _)|(with_reducible refine Kd.bS ?_)));(case zl=>exact Dk.out);rintro e w8 ⟨rfl,hb⟩;have zJ:=Aside0.mk (aT (by repeat (first|(with_reducible first|exact HB.out|apply av|apply ak|apply au)|exact HB.out)) hb);clear HB;have HB:=zJ;clear zJ;(try clear hb);(try clear hb2);(try clear hk);(try clear hi)))
   go_meet
   case rel=>exact ⟨_,(!Am),(by first|rfl|(simp;done)|(simp [*];done)),H',⟨by first|omega|exact Nat.le_refl _⟩,⟨by repeat (first|(with_reducible first|exact HB.out|apply av|apply ak|apply au)|exact HB.out)⟩⟩
  ·replace c5:=Bool.eq_false_iff.mpr c5
   subst c5
   have H1 : (aY.j0 k l0 l1 true) = some r:=by rw [if_neg (show ¬ (false = true) by decide)] at H;exact H
   clear H
   have H:=H1
   clear H1
   have H':=Aside0.mk H
   clear H
   go_wp2_with (first|((with_reducible refine bW (f:=8) rfl ?_);refine dJ (some 10) rfl rfl Tryd.func8 (by kernel_rfl) rfl #[.slice A0 l0.length c0] rfl (by (try simp only [List.map_toArray,List.map_cons,List.map_nil]);first|done|rfl|(simp only [List.length_drop,List.length_take];rfl)|(simp (disch:=first|omega|(simp at *;omega)) only [dF,dA,dV];rfl)) ?_;(with_reducible refine (bN.calls k _ _ l0 false _ ?zk ?zl A4.out).mono ?_);(case zk=>repeat (first|exact (Kd.bO CY.out HB.out)|(with_reducible refine Kd.bJ ?_ _)|(with_reducible refine Kd.bL ?_ _)|(with_reducible refine Kd.bS ?_)));(case zl=>exact CZ.out);rintro e w9 ⟨rfl,hb⟩;refine ⟨_,rfl,?_⟩;have zJ:=Aside0.mk (aT (by repeat (first|(with_reducible first|exact HB.out|apply av|apply ak|apply au)|exact HB.out)) hb);clear HB;have HB:=zJ;clear zJ;(try clear hb);(try clear hb2);(try clear hk);(try clear hi)))
   go_meet
   case rel=>exact ⟨_,(true),(by first|rfl|(simp;done)|(simp [*];done)),H',⟨by first|omega|exact Nat.le_refl _⟩,⟨by repeat (first|(with_reducible first|exact HB.out|apply av|apply ak|apply au)|exact HB.out)⟩⟩
 case rest =>
  clear C8
  try clear c1
  try clear p2
  try clear c4
  try clear c5
  try clear c8
  obtain ⟨kq,Av,rfl,HA,HJ2,HB⟩:=hcut
  cases kq with
  | zero=>exact absurd HA.out (by simp [aY.j0])
  | succ zu =>
   have H:=HA.out
   clear HA
   simp only [aY.j0] at H
   by_cases c10 : Av = true
   ·subst c10
    have H1 : ((cO.f zu).bind fun t222=>(some t222)) = some r:=by rw [if_pos rfl] at H;exact H
    clear H
    have H:=H1
    clear H1
    replace H:=Option.bind_eq_some_iff.mp H
    obtain ⟨t222,Bn,H⟩:=H
    replace H : (some t222) = some r:=H
    have DT:=Aside0.mk Bn
    clear Bn
    obtain rfl:=Option.some.inj H
    go_wp2_with (first|((with_reducible refine bW (f:=9) rfl ?_);refine dJ (some 17) rfl rfl Tryd.func9 (by kernel_rfl) rfl #[] rfl (by (try simp only [List.map_toArray,List.map_cons,List.map_nil]);first|done|rfl|(simp only [List.length_drop,List.length_take];rfl)|(simp (disch:=first|omega|(simp at *;omega)) only [dF,dA,dV];rfl)) ?_;(with_reducible refine (cO.calls zu  t222 _ DT.out (by first|assumption|exact GW.below hG (by first|exact HB.out|assumption|(repeat (first|(with_reducible first|exact HB.out|apply av|apply ak|apply au)|exact HB.out)))|exact GW.drawn hG (by first|assumption|(repeat (first|exact Drawn0.refl _|assumption|apply Drawn0.step))))).mono ?_);rintro e Ei ⟨rfl,hb⟩;refine ⟨_,rfl,?_⟩;have zJ:=Aside0.mk (aT (by repeat (first|(with_reducible first|exact HB.out|apply av|apply ak|apply au)|exact HB.out)) hb);clear HB;have HB:=zJ;clear zJ;(try clear hb);(try clear hb2);(try clear hk);(try clear hi)))
    go_ret
    exact ⟨by first|rfl|(simp [bg,bn] <;> rfl)|(simp [*,bg,bn] <;> rfl),by repeat (first|(with_reducible first|exact HB.out|apply av|apply ak|apply au)|exact HB.out)⟩
   ·replace c10:=Bool.eq_false_iff.mpr c10
    subst c10
    have H1 : ((bC.f l0).bind fun xY=>((bC.f l1).bind fun yK=>((cO.f zu).bind fun Ao=>(if Ao = true then ((bQ.f zu xY.1 xY.2.1 xY.2.2.1 xY.2.2.2.1 xY.2.2.2.2.1 xY.2.2.2.2.2.1).bind fun Ag=>((cZ.f zu xY.2.2.2.2.2.2.1 xY.2.2.2.2.2.2.2.1 xY.2.2.2.2.2.2.2.2.1 xY.2.2.2.2.2.2.2.2.2.1 xY.2.2.2.2.2.2.2.2.2.2.1 xY.2.2.2.2.2.2.2.2.2.2.2).bind fun Ad=>(if Ag = Ad then ((aN.f zu xY.1 xY.2.1 xY.2.2.1 xY.2.2.2.1 xY.2.2.2.2.1 xY.2.2.2.2.2.1).bind fun zU=>((aV.f zu xY.2.2.2.2.2.2.1 xY.2.2.2.2.2.2.2.1 xY.2.2.2.2.2.2.2.2.1 xY.2.2.2.2.2.2.2.2.2.1 xY.2.2.2.2.2.2.2.2.2.2.1 xY.2.2.2.2.2.2.2.2.2.2.2).bind fun zT=>(if zU = zT then ((bI.f zu xY.1 xY.2.1 xY.2.2.1 xY.2.2.2.1 xY.2.2.2.2.1 xY.2.2.2.2.2.1 yK.1 yK.2.1 yK.2.2.1 yK.2.2.2.1 yK.2.2.2.2.1 yK.2.2.2.2.2.1).bind fun zG=>((aJ.f zu xY.2.2.2.2.2.2.1 xY.2.2.2.2.2.2.2.1 xY.2.2.2.2.2.2.2.2.1 xY.2.2.2.2.2.2.2.2.2.1 xY.2.2.2.2.2.2.2.2.2.2.1 xY.2.2.2.2.2.2.2.2.2.2.2 yK.2.2.2.2.2.2.1 yK.2.2.2.2.2.2.2.1 yK.2.2.2.2.2.2.2.2.1 yK.2.2.2.2.2.2.2.2.2.1 yK.2.2.2.2.2.2.2.2.2.2.1 yK.2.2.2.2.2.2.2.2.2.2.2).bind fun zF=>(if (zG == zF) = true then ((bI.f zu xY.1 xY.2.1 xY.2.2.1 xY.2.2.2.1 xY.2.2.2.2.1 xY.2.2.2.2.2.1 xY.1 xY.2.1 xY.2.2.1 xY.2.2.2.1 xY.2.2.2.2.1 xY.2.2.2.2.2.1).bind fun zS=>(some zS)) else (some false)))) else (some false)))) else (some false)))) else (some false))))) = some r:=by rw [if_neg (show ¬ (false = true) by decide)] at H;exact H
    clear H
    have H:=H1
    clear H1
    replace H:=Option.bind_eq_some_iff.mp H
    obtain ⟨⟨yt,yu,yw,t226,t227,yD,t233,t234,yE,t236,yJ,yL⟩,Bo,H⟩:=H
    replace H : ((bC.f l1).bind fun yK=>((cO.f zu).bind fun Ao=>(if Ao = true then ((bQ.f zu yt yu yw t226 t227 yD).bind fun Ag=>((cZ.f zu t233 t234 yE t236 yJ yL).bind fun Ad=>(if Ag = Ad then ((aN.f zu yt yu yw t226 t227 yD).bind fun zU=>((aV.f zu t233 t234 yE t236 yJ yL).bind fun zT=>(if zU = zT then ((bI.f zu yt yu yw t226 t227 yD yK.1 yK.2.1 yK.2.2.1 yK.2.2.2.1 yK.2.2.2.2.1 yK.2.2.2.2.2.1).bind fun zG=>((aJ.f zu t233 t234 yE t236 yJ yL yK.2.2.2.2.2.2.1 yK.2.2.2.2.2.2.2.1 yK.2.2.2.2.2.2.2.2.1 yK.2.2.2.2.2.2.2.2.2.1 yK.2.2.2.2.2.2.2.2.2.2.1 yK.2.2.2.2.2.2.2.2.2.2.2).bind fun zF=>(if (zG == zF) = true then ((bI.f zu yt yu yw t226 t227 yD yt yu yw t226 t227 yD).bind fun zS=>(some zS)) else (some false)))) else (some false)))) else (some false)))) else (some false)))) = some r:=H
    have DU:=Aside0.mk Bo
    clear Bo
    replace H:=Option.bind_eq_some_iff.mp H
    obtain ⟨⟨yN,yP,yS,yX,yT,yY,yM,yO,yQ,yU,yR,yV⟩,Bp,H⟩:=H
    replace H : ((cO.f zu).bind fun Ao=>(if Ao = true then ((bQ.f zu yt yu yw t226 t227 yD).bind fun Ag=>((cZ.f zu t233 t234 yE t236 yJ yL).bind fun Ad=>(if Ag = Ad then ((aN.f zu yt yu yw t226 t227 yD).bind fun zU=>((aV.f zu t233 t234 yE t236 yJ yL).bind fun zT=>(if zU = zT then ((bI.f zu yt yu yw t226 t227 yD yN yP yS yX yT yY).bind fun zG=>((aJ.f zu t233 t234 yE t236 yJ yL yM yO yQ yU yR yV).bind fun zF=>(if (zG == zF) = true then ((bI.f zu yt yu yw t226 t227 yD yt yu yw t226 t227 yD).bind fun zS=>(some zS)) else (some false)))) else (some false)))) else (some false)))) else (some false))) = some r:=H
    have DV:=Aside0.mk Bp
    clear Bp
    replace H:=Option.bind_eq_some_iff.mp H
    obtain ⟨Ao,Bq,H⟩:=H
    replace H : (if Ao = true then ((bQ.f zu yt yu yw t226 t227 yD).bind fun Ag=>((cZ.f zu t233 t234 yE t236 yJ yL).bind fun Ad=>(if Ag = Ad then ((aN.f zu yt yu yw t226 t227 yD).bind fun zU=>((aV.f zu t233 t234 yE t236 yJ yL).bind fun zT=>(if zU = zT then ((bI.f zu yt yu yw t226 t227 yD yN yP yS yX yT yY).bind fun zG=>((aJ.f zu t233 t234 yE t236 yJ yL yM yO yQ yU yR yV).bind fun zF=>(if (zG == zF) = true then ((bI.f zu yt yu yw t226 t227 yD yt yu yw t226 t227 yD).bind fun zS=>(some zS)) else (some false)))) else (some false)))) else (some false)))) else (some false)) = some r:=H
    have DW:=Aside0.mk Bq
    clear Bq
    by_cases c16 : Ao = true
    ·subst c16
     have H1 : ((bQ.f zu yt yu yw t226 t227 yD).bind fun Ag=>((cZ.f zu t233 t234 yE t236 yJ yL).bind fun Ad=>(if Ag = Ad then ((aN.f zu yt yu yw t226 t227 yD).bind fun zU=>((aV.f zu t233 t234 yE t236 yJ yL).bind fun zT=>(if zU = zT then ((bI.f zu yt yu yw t226 t227 yD yN yP yS yX yT yY).bind fun zG=>((aJ.f zu t233 t234 yE t236 yJ yL yM yO yQ yU yR yV).bind fun zF=>(if (zG == zF) = true then ((bI.f zu yt yu yw t226 t227 yD yt yu yw t226 t227 yD).bind fun zS=>(some zS)) else (some false)))) else (some false)))) else (some false)))) = some r:=by rw [if_pos rfl] at H;exact H
     clear H
     have H:=H1
     clear H1
     replace H:=Option.bind_eq_some_iff.mp H
     obtain ⟨Ag,Br,H⟩:=H
     replace H : ((cZ.f zu t233 t234 yE t236 yJ yL).bind fun Ad=>(if Ag = Ad then ((aN.f zu yt yu yw t226 t227 yD).bind fun zU=>((aV.f zu t233 t234 yE t236 yJ yL).bind fun zT=>(if zU = zT then ((bI.f zu yt yu yw t226 t227 yD yN yP yS yX yT yY).bind fun zG=>((aJ.f zu t233 t234 yE t236 yJ yL yM yO yQ yU yR yV).bind fun zF=>(if (zG == zF) = true then ((bI.f zu yt yu yw t226 t227 yD yt yu yw t226 t227 yD).bind fun zS=>(some zS)) else (some false)))) else (some false)))) else (some false))) = some r:=H
     have DX:=Aside0.mk Br
     clear Br
     replace H:=Option.bind_eq_some_iff.mp H
     obtain ⟨Ad,Bt,H⟩:=H
     replace H : (if Ag = Ad then ((aN.f zu yt yu yw t226 t227 yD).bind fun zU=>((aV.f zu t233 t234 yE t236 yJ yL).bind fun zT=>(if zU = zT then ((bI.f zu yt yu yw t226 t227 yD yN yP yS yX yT yY).bind fun zG=>((aJ.f zu t233 t234 yE t236 yJ yL yM yO yQ yU yR yV).bind fun zF=>(if (zG == zF) = true then ((bI.f zu yt yu yw t226 t227 yD yt yu yw t226 t227 yD).bind fun zS=>(some zS)) else (some false)))) else (some false)))) else (some false)) = some r:=H
     have DY:=Aside0.mk Bt
     clear Bt
     by_cases c19 : Ag = Ad
     ·rw [if_pos c19] at H
      have c19b0 : (Ag == Ad) = true:=beq_iff_eq.mpr c19
      have c19b1 : (Ag != Ad) = false:=bne_eq_false_iff_eq.mpr c19
      clear c19
      replace H:=Option.bind_eq_some_iff.mp H
      obtain ⟨zU,Bu,H⟩:=H
      replace H : ((aV.f zu t233 t234 yE t236 yJ yL).bind fun zT=>(if zU = zT then ((bI.f zu yt yu yw t226 t227 yD yN yP yS yX yT yY).bind fun zG=>((aJ.f zu t233 t234 yE t236 yJ yL yM yO yQ yU yR yV).bind fun zF=>(if (zG == zF) = true then ((bI.f zu yt yu yw t226 t227 yD yt yu yw t226 t227 yD).bind fun zS=>(some zS)) else (some false)))) else (some false))) = some r:=H
      have DZ:=Aside0.mk Bu
      clear Bu
      replace H:=Option.bind_eq_some_iff.mp H
      obtain ⟨zT,Bv,H⟩:=H
      replace H : (if zU = zT then ((bI.f zu yt yu yw t226 t227 yD yN yP yS yX yT yY).bind fun zG=>((aJ.f zu t233 t234 yE t236 yJ yL yM yO yQ yU yR yV).bind fun zF=>(if (zG == zF) = true then ((bI.f zu yt yu yw t226 t227 yD yt yu yw t226 t227 yD).bind fun zS=>(some zS)) else (some false)))) else (some false)) = some r:=H
      have D5:=Aside0.mk Bv
      clear Bv
      by_cases Bj : zU = zT
      ·rw [if_pos Bj] at H
       have c22b0 : (zU == zT) = true:=beq_iff_eq.mpr Bj
       have c22b1 : (zU != zT) = false:=bne_eq_false_iff_eq.mpr Bj
       clear Bj
       replace H:=Option.bind_eq_some_iff.mp H
       obtain ⟨zG,Bw,H⟩:=H
       replace H : ((aJ.f zu t233 t234 yE t236 yJ yL yM yO yQ yU yR yV).bind fun zF=>(if (zG == zF) = true then ((bI.f zu yt yu yw t226 t227 yD yt yu yw t226 t227 yD).bind fun zS=>(some zS)) else (some false))) = some r:=H
       have D6:=Aside0.mk Bw
       clear Bw
       replace H:=Option.bind_eq_some_iff.mp H
       obtain ⟨zF,Bz,H⟩:=H
       replace H : (if (zG == zF) = true then ((bI.f zu yt yu yw t226 t227 yD yt yu yw t226 t227 yD).bind fun zS=>(some zS)) else (some false)) = some r:=H
       have D7:=Aside0.mk Bz
       clear Bz
       by_cases AQ : (zG == zF) = true
       ·rw [if_pos AQ] at H
        have c25b0 : (zG == zF) = true:=AQ
        (try (have c25b1 : decide (zG = zF) = true:=by simpa using AQ))
        (try (have c25b2 : (zG == zF) = true:=by simpa using AQ))
        clear AQ
        replace H:=Option.bind_eq_some_iff.mp H
        obtain ⟨zS,BA,H⟩:=H
        replace H : (some zS) = some r:=H
        have D8:=Aside0.mk BA
        clear BA
        obtain rfl:=Option.some.inj H
        try go_wp2_with (first|((with_reducible refine bW (f:=10) rfl ?_);refine dJ (some 20) rfl rfl Tryd.func10 (by kernel_rfl) rfl #[.slice A0 l0.length c0] rfl (by (try simp only [List.map_toArray,List.map_cons,List.map_nil]);first|done|rfl|(simp only [List.length_drop,List.length_take];rfl)|(simp (disch:=first|omega|(simp at *;omega)) only [dF,dA,dV];rfl)) ?_;(with_reducible refine (bC.calls _ _ l0 yt yu yw t226 t227 yD t233 t234 yE t236 yJ yL _ ?zk ?zl DU.out).mono ?_);(case zk=>repeat (first|exact (Kd.bO CY.out HB.out)|(with_reducible refine Kd.bJ ?_ _)|(with_reducible refine Kd.bL ?_ _)|(with_reducible refine Kd.bS ?_)));(case zl=>exact CZ.out);rintro e Ej ⟨v228,D9,Ea,Eb,rfl,ho0,ho1,ho2,ho3,hb⟩;refine ⟨_,rfl,?_⟩;have zJ:=Aside0.mk (Kd.fQ (Kd.bM (ok':=fun k_=>True) ho0 (fun k_ hk_=>trivial)) (aM (by repeat (first|(with_reducible first|exact HB.out|apply av|apply ak|apply au)|exact HB.out))));have zV:=Aside0.mk (Kd.fQ (Kd.bM (ok':=fun k_=>True) ho1 (fun k_ hk_=>trivial)) (aM (by repeat (first|(with_reducible first|exact HB.out|apply av|apply ak|apply au)|exact HB.out))));have zW:=Aside0.mk (Kd.fQ (Kd.bM (ok':=fun k_=>True) ho2 (fun k_ hk_=>trivial)) (aM (by repeat (first|(with_reducible first|exact HB.out|apply av|apply ak|apply au)|exact HB.out))));have zX:=Aside0.mk (Kd.fQ (Kd.bM (ok':=fun k_=>True) ho3 (fun k_ hk_=>trivial)) (aM (by repeat (first|(with_reducible first|exact HB.out|apply av|apply ak|apply au)|exact HB.out))));have zY:=Aside0.mk (aT (by repeat (first|(with_reducible first|exact HB.out|apply av|apply ak|apply au)|exact HB.out)) hb);clear HB;have yx:=zJ;have yA:=zV;have yB:=zW;have yC:=zX;have HB:=zY;clear zJ zV zW zX zY;(try clear hb);(try clear hb2);(try clear hk);(try clear hi);(try clear ho0);(try clear ho1);(try clear ho2);(try clear ho3))|((with_reducible refine bV (N:=5) rfl ?_);refine bT ?hg (N:=5) ?hd (cs:=#[.int .i64 0,.bool false,.int .i64 0,.string (⟨#[]⟩ : ByteArray),.slice none 0 0,.slice none 0 0]) (t:=29) ?hr ?_;(case hd=>rfl);(case hg=>rfl);(case hr=>first|(go_simp;done)|(go_simp;rfl));intro yc hg El hbox hb;have zJ:=Aside0.mk (Kd.bq (Kd.dh (by (with_reducible repeat (first|apply Kd.aZ|apply Kd.bf|apply Kd.bF));exact yx.out) yc (Nat.le_of_eq hg.symm)) hb);have zV:=Aside0.mk (Kd.bq (Kd.dh (by (with_reducible repeat (first|apply Kd.aZ|apply Kd.bf|apply Kd.bF));exact yA.out) yc (Nat.le_of_eq hg.symm)) hb);have zW:=Aside0.mk (Kd.bq (Kd.dh (by (with_reducible repeat (first|apply Kd.aZ|apply Kd.bf|apply Kd.bF));exact yB.out) yc (Nat.le_of_eq hg.symm)) hb);have zX:=Aside0.mk (Kd.bq (Kd.dh (by (with_reducible repeat (first|apply Kd.aZ|apply Kd.bf|apply Kd.bF));exact yC.out) yc (Nat.le_of_eq hg.symm)) hb);have zY:=Aside0.mk (aT (by repeat (first|(with_reducible first|exact HB.out|apply av|apply ak|apply au)|exact HB.out)) hb);have zZ:=Aside0.mk (hbox);have z8:=Aside0.mk ((by rw [hg];exact (aM (by repeat (first|(with_reducible first|exact HB.out|apply av|apply ak|apply au)|exact HB.out))) : w.heap.size ≤ yc));have Ac:=Aside0.mk ((by rw [hg];exact (aM (by repeat (first|(with_reducible first|exact HB.out|apply av|apply ak|apply au)|exact HB.out))) : w.heap.size ≤ yc));clear yx;clear yA;clear yB;clear yC;clear HB;have yx:=zJ;have yA:=zV;have yB:=zW;have yC:=zX;have HB:=zY;have xV:=zZ;have Dn:=z8;have za:=Ac;clear zJ zV zW zX zY zZ z8 Ac;clear hb hbox hg)|((with_reducible refine bV (N:=6) rfl ?_);refine bT ?hg (N:=6) ?hd (cs:=#[.int .i64 0,.bool false,.int .i64 0,.string (⟨#[]⟩ : ByteArray),.slice none 0 0,.slice none 0 0]) (t:=33) ?hr ?_;(case hd=>rfl);(case hg=>rfl);(case hr=>first|(go_simp;done)|(go_simp;rfl));intro yg hg AP hbox hb;have zJ:=Aside0.mk (Kd.bq (Kd.dh (by (with_reducible repeat (first|apply Kd.aZ|apply Kd.bf|apply Kd.bF));exact yx.out) yg (Nat.le_of_eq hg.symm)) hb);have zV:=Aside0.mk (Kd.bq (Kd.dh (by (with_reducible repeat (first|apply Kd.aZ|apply Kd.bf|apply Kd.bF));exact yA.out) yg (Nat.le_of_eq hg.symm)) hb);have zW:=Aside0.mk (Kd.bq (Kd.dh (by (with_reducible repeat (first|apply Kd.aZ|apply Kd.bf|apply Kd.bF));exact yB.out) yg (Nat.le_of_eq hg.symm)) hb);have zX:=Aside0.mk (Kd.bq (Kd.dh (by (with_reducible repeat (first|apply Kd.aZ|apply Kd.bf|apply Kd.bF));exact yC.out) yg (Nat.le_of_eq hg.symm)) hb);have zY:=Aside0.mk (aU (g:=yc) (o:=.cells #[.int .i64 0,.bool false,.int .i64 0,.string (⟨#[]⟩ : ByteArray),.slice none 0 0,.slice none 0 0] 29 (0,0)) (bk_ xV.out) hb);have zZ:=Aside0.mk (aT (by repeat (first|(with_reducible first|exact HB.out|apply av|apply ak|apply au|refine aD ?_ za.out)|exact HB.out)) hb);have z8:=Aside0.mk (hbox);have Ac:=Aside0.mk ((by rw [hg];exact (aM (by repeat (first|(with_reducible first|exact HB.out|apply av|apply ak|apply au|refine aD ?_ za.out)|exact HB.out))) : w.heap.size ≤ yg));have Ae:=Aside0.mk ((by rw [hg];exact (aM (by repeat (first|(with_reducible first|exact HB.out|apply av|apply ak|apply au|refine aD ?_ za.out)|exact HB.out))) : w.heap.size ≤ yg));have Af:=Aside0.mk ((by rw [hg];exact Nat.ne_of_lt (dn (g:=yc) (o:=.cells #[.int .i64 0,.bool false,.int .i64 0,.string (⟨#[]⟩ : ByteArray),.slice none 0 0,.slice none 0 0] 29 (0,0)) (bk_ xV.out)) : yc ≠ yg));have yZ:=Aside0.mk ((by rw [hg];exact Nat.ne_of_gt (dn (g:=yc) (o:=.cells #[.int .i64 0,.bool false,.int .i64 0,.string (⟨#[]⟩ : ByteArray),.slice none 0 0,.slice none 0 0] 29 (0,0)) (bk_ xV.out)) : yg ≠ yc));clear yx;clear yA;clear yB;clear yC;clear xV;clear HB;have yx:=zJ;have yA:=zV;have yB:=zW;have yC:=zX;have xV:=zY;have HB:=zZ;have xW:=z8;have Dp:=Ac;have zD:=Ae;have yh:=Af;have yj:=yZ;clear zJ zV zW zX zY zZ z8 Ac Ae Af yZ;clear hb hbox hg;have Dq:=yh.out;have Dr:=yj.out;have BH : AP.cell? ⟨yc,0,none⟩ = some (.int .i64 0):=(ah xV.out 0).trans rfl;have BI : AP.cell? ⟨yc,1,none⟩ = some (.bool false):=(ah xV.out 1).trans rfl;have BJ : AP.cell? ⟨yc,2,none⟩ = some (.int .i64 0):=(ah xV.out 2).trans rfl;have BK : AP.cell? ⟨yc,3,none⟩ = some (.string (⟨#[]⟩ : ByteArray)):=(ah xV.out 3).trans rfl;have BL : AP.cell? ⟨yc,4,none⟩ = some (.slice none 0 0):=(ah xV.out 4).trans rfl;have BM : AP.cell? ⟨yc,5,none⟩ = some (.slice none 0 0):=(ah xV.out 5).trans rfl;have BN:=aj xV.out 0;have BO:=aj xV.out 1;have BP:=aj xV.out 2;have BQ:=aj xV.out 3;have BR:=aj xV.out 4;have BS:=aj xV.out 5;obtain ⟨ze,zf,C9⟩:=Kd.dQ yx.out;subst C9;obtain ⟨zH,zI,Da⟩:=Kd.dQ yA.out;subst Da;have BU : AP.cell? ⟨yg,0,none⟩ = some (.int .i64 0):=(ah xW.out 0).trans rfl;have BZ : AP.cell? ⟨yg,1,none⟩ = some (.bool false):=(ah xW.out 1).trans rfl;have Ca : AP.cell? ⟨yg,2,none⟩ = some (.int .i64 0):=(ah xW.out 2).trans rfl;have Cb : AP.cell? ⟨yg,3,none⟩ = some (.string (⟨#[]⟩ : ByteArray)):=(ah xW.out 3).trans rfl;have Cc : AP.cell? ⟨yg,4,none⟩ = some (.slice none 0 0):=(ah xW.out 4).trans rfl;have Ce : AP.cell? ⟨yg,5,none⟩ = some (.slice none 0 0):=(ah xW.out 5).trans rfl;have Cg:=aj xW.out 0;have Ch:=aj xW.out 1;have Ci:=aj xW.out 2;have Cj:=aj xW.out 3;have Ck:=aj xW.out 4;have Cm:=aj xW.out 5;obtain ⟨zw,zx,Db⟩:=Kd.dQ yB.out;subst Db;obtain ⟨zK,zL,Dc⟩:=Kd.dQ yC.out;subst Dc)|((with_reducible refine bW (f:=10) rfl ?_);refine dJ (some 25) rfl rfl Tryd.func10 (by kernel_rfl) rfl #[.slice A1 l1.length c1] rfl (by (try simp only [List.map_toArray,List.map_cons,List.map_nil]);first|done|rfl|(simp only [List.length_drop,List.length_take];rfl)|(simp (disch:=first|omega|(simp at *;omega)) only [dF,dA,dV];rfl)) ?_;(with_reducible refine (bC.calls _ _ l1 yN yP yS yX yT yY yM yO yQ yU yR yV _ ?zk ?zl DV.out).mono ?_);(case zk=>exact Kd.bO HR1.out (by repeat (first|(with_reducible first|exact HB.out|apply av|apply ak|apply au|refine aD ?_ za.out|refine aD ?_ zD.out)|exact HB.out)));(case zl=>exact Dk.out);rintro e Em ⟨Ec,Ed,Ee,Ef,rfl,ho0,ho1,ho2,ho3,hb⟩;refine ⟨_,rfl,?_⟩;have zJ:=Aside0.mk (Kd.bq (by (with_reducible repeat (first|apply Kd.aZ|apply Kd.bf|apply Kd.bF));exact (Kd.bM (Kd.bM (Kd.aX (p:=⟨yg,5,none⟩) (Kd.aX (p:=⟨yg,4,none⟩) (Kd.aX (p:=⟨yg,3,none⟩) (Kd.aX (p:=⟨yg,2,none⟩) (Kd.aX (p:=⟨yg,1,none⟩) (Kd.aX (p:=⟨yg,0,none⟩) (Kd.aX (p:=⟨yc,5,none⟩) (Kd.aX (p:=⟨yc,4,none⟩) (Kd.aX (p:=⟨yc,3,none⟩) (Kd.aX (p:=⟨yc,2,none⟩) (Kd.aX (p:=⟨yc,1,none⟩) (Kd.aX (p:=⟨yc,0,none⟩) (Kd.bM (Kd.bM yx.out (fun k_ hk=>(⟨hk,hk.1.2⟩ : _ ∧ k_ ≠ yc))) (fun k_ hk=>(⟨hk,hk.1.2⟩ : _ ∧ k_ ≠ yg))) (fun _ hk=>hk.1.2) (.int .i64 yt)) (fun _ hk=>hk.1.2) (.bool yu)) (fun _ hk=>hk.1.2) (.int .i64 yw)) (fun _ hk=>hk.1.2) (.string t226)) (fun _ hk=>hk.1.2) (.slice ze t227.length zf)) (fun _ hk=>hk.1.2) (.slice zH yD.length zI)) (fun _ hk=>hk.2) (.int .i64 t233)) (fun _ hk=>hk.2) (.bool t234)) (fun _ hk=>hk.2) (.int .i64 yE)) (fun _ hk=>hk.2) (.string t236)) (fun _ hk=>hk.2) (.slice zw yJ.length zx)) (fun _ hk=>hk.2) (.slice zK yL.length zL)) (fun _ h_=>h_.1)) (fun _ h_=>h_.1))) hb);have zV:=Aside0.mk (Kd.bq (by (with_reducible repeat (first|apply Kd.aZ|apply Kd.bf|apply Kd.bF));exact (Kd.bM (Kd.bM (Kd.aX (p:=⟨yg,5,none⟩) (Kd.aX (p:=⟨yg,4,none⟩) (Kd.aX (p:=⟨yg,3,none⟩) (Kd.aX (p:=⟨yg,2,none⟩) (Kd.aX (p:=⟨yg,1,none⟩) (Kd.aX (p:=⟨yg,0,none⟩) (Kd.aX (p:=⟨yc,5,none⟩) (Kd.aX (p:=⟨yc,4,none⟩) (Kd.aX (p:=⟨yc,3,none⟩) (Kd.aX (p:=⟨yc,2,none⟩) (Kd.aX (p:=⟨yc,1,none⟩) (Kd.aX (p:=⟨yc,0,none⟩) (Kd.bM (Kd.bM yA.out (fun k_ hk=>(⟨hk,hk.1.2⟩ : _ ∧ k_ ≠ yc))) (fun k_ hk=>(⟨hk,hk.1.2⟩ : _ ∧ k_ ≠ yg))) (fun _ hk=>hk.1.2) (.int .i64 yt)) (fun _ hk=>hk.1.2) (.bool yu)) (fun _ hk=>hk.1.2) (.int .i64 yw)) (fun _ hk=>hk.1.2) (.string t226)) (fun _ hk=>hk.1.2) (.slice ze t227.length zf)) (fun _ hk=>hk.1.2) (.slice zH yD.length zI)) (fun _ hk=>hk.2) (.int .i64 t233)) (fun _ hk=>hk.2) (.bool t234)) (fun _ hk=>hk.2) (.int .i64 yE)) (fun _ hk=>hk.2) (.string t236)) (fun _ hk=>hk.2) (.slice zw yJ.length zx)) (fun _ hk=>hk.2) (.slice zK yL.length zL)) (fun _ h_=>h_.1)) (fun _ h_=>h_.1))) hb);have zW:=Aside0.mk (Kd.bq (by (with_reducible repeat (first|apply Kd.aZ|apply Kd.bf|apply Kd.bF));exact (Kd.bM (Kd.bM (Kd.aX (p:=⟨yg,5,none⟩) (Kd.aX (p:=⟨yg,4,none⟩) (Kd.aX (p:=⟨yg,3,none⟩) (Kd.aX (p:=⟨yg,2,none⟩) (Kd.aX (p:=⟨yg,1,none⟩) (Kd.aX (p:=⟨yg,0,none⟩) (Kd.aX (p:=⟨yc,5,none⟩) (Kd.aX (p:=⟨yc,4,none⟩) (Kd.aX (p:=⟨yc,3,none⟩) (Kd.aX (p:=⟨yc,2,none⟩) (Kd.aX (p:=⟨yc,1,none⟩) (Kd.aX (p:=⟨yc,0,none⟩) (Kd.bM (Kd.bM yB.out (fun k_ hk=>(⟨hk,hk.1.2⟩ : _ ∧ k_ ≠ yc))) (fun k_ hk=>(⟨hk,hk.1.2⟩ : _ ∧ k_ ≠ yg))) (fun _ hk=>hk.1.2) (.int .i64 yt)) (fun _ hk=>hk.1.2) (.bool yu)) (fun _ hk=>hk.1.2) (.int .i64 yw)) (fun _ hk=>hk.1.2) (.string t226)) (fun _ hk=>hk.1.2) (.slice ze t227.length zf)) (fun _ hk=>hk.1.2) (.slice zH yD.length zI)) (fun _ hk=>hk.2) (.int .i64 t233)) (fun _ hk=>hk.2) (.bool t234)) (fun _ hk=>hk.2) (.int .i64 yE)) (fun _ hk=>hk.2) (.string t236)) (fun _ hk=>hk.2) (.slice zw yJ.length zx)) (fun _ hk=>hk.2) (.slice zK yL.length zL)) (fun _ h_=>h_.1)) (fun _ h_=>h_.1))) hb);have zX:=Aside0.mk (Kd.bq (by (with_reducible repeat (first|apply Kd.aZ|apply Kd.bf|apply Kd.bF));exact (Kd.bM (Kd.bM (Kd.aX (p:=⟨yg,5,none⟩) (Kd.aX (p:=⟨yg,4,none⟩) (Kd.aX (p:=⟨yg,3,none⟩) (Kd.aX (p:=⟨yg,2,none⟩) (Kd.aX (p:=⟨yg,1,none⟩) (Kd.aX (p:=⟨yg,0,none⟩) (Kd.aX (p:=⟨yc,5,none⟩) (Kd.aX (p:=⟨yc,4,none⟩) (Kd.aX (p:=⟨yc,3,none⟩) (Kd.aX (p:=⟨yc,2,none⟩) (Kd.aX (p:=⟨yc,1,none⟩) (Kd.aX (p:=⟨yc,0,none⟩) (Kd.bM (Kd.bM yC.out (fun k_ hk=>(⟨hk,hk.1.2⟩ : _ ∧ k_ ≠ yc))) (fun k_ hk=>(⟨hk,hk.1.2⟩ : _ ∧ k_ ≠ yg))) (fun _ hk=>hk.1.2) (.int .i64 yt)) (fun _ hk=>hk.1.2) (.bool yu)) (fun _ hk=>hk.1.2) (.int .i64 yw)) (fun _ hk=>hk.1.2) (.string t226)) (fun _ hk=>hk.1.2) (.slice ze t227.length zf)) (fun _ hk=>hk.1.2) (.slice zH yD.length zI)) (fun _ hk=>hk.2) (.int .i64 t233)) (fun _ hk=>hk.2) (.bool t234)) (fun _ hk=>hk.2) (.int .i64 yE)) (fun _ hk=>hk.2) (.string t236)) (fun _ hk=>hk.2) (.slice zw yJ.length zx)) (fun _ hk=>hk.2) (.slice zK yL.length zL)) (fun _ h_=>h_.1)) (fun _ h_=>h_.1))) hb);have zY:=Aside0.mk (Kd.fQ (Kd.bM (ok':=fun k_=>k_ ≠ yc ∧ k_ ≠ yg) ho0 (fun k_ hk_=>⟨(Kd.iw (g:=yc) (o:=.cells #[.int .i64 yt,.bool yu,.int .i64 yw,.string t226,.slice ze t227.length zf,.slice zH yD.length zI] 29 (0,0)) (by (with_reducible repeat (first|apply aA|apply aC|apply ay));refine bE ?_ yh.out _;(with_reducible repeat (first|apply aA|apply aC|apply ay));refine bE ?_ yh.out _;(with_reducible repeat (first|apply aA|apply aC|apply ay));refine bE ?_ yh.out _;(with_reducible repeat (first|apply aA|apply aC|apply ay));refine bE ?_ yh.out _;(with_reducible repeat (first|apply aA|apply aC|apply ay));refine bE ?_ yh.out _;(with_reducible repeat (first|apply aA|apply aC|apply ay));refine bE ?_ yh.out _;(with_reducible repeat (first|apply aA|apply aC|apply ay));refine aR (cs:=#[.int .i64 yt,.bool yu,.int .i64 yw,.string t226,.slice ze t227.length zf,.slice none 0 0]) ?_ 5 _ rfl;(with_reducible repeat (first|apply aA|apply aC|apply ay));refine aR (cs:=#[.int .i64 yt,.bool yu,.int .i64 yw,.string t226,.slice none 0 0,.slice none 0 0]) ?_ 4 _ rfl;(with_reducible repeat (first|apply aA|apply aC|apply ay));refine aR (cs:=#[.int .i64 yt,.bool yu,.int .i64 yw,.string (⟨#[]⟩ : ByteArray),.slice none 0 0,.slice none 0 0]) ?_ 3 _ rfl;(with_reducible repeat (first|apply aA|apply aC|apply ay));refine aR (cs:=#[.int .i64 yt,.bool yu,.int .i64 0,.string (⟨#[]⟩ : ByteArray),.slice none 0 0,.slice none 0 0]) ?_ 2 _ rfl;(with_reducible repeat (first|apply aA|apply aC|apply ay));refine aR (cs:=#[.int .i64 yt,.bool false,.int .i64 0,.string (⟨#[]⟩ : ByteArray),.slice none 0 0,.slice none 0 0]) ?_ 1 _ rfl;(with_reducible repeat (first|apply aA|apply aC|apply ay));refine aR (cs:=#[.int .i64 0,.bool false,.int .i64 0,.string (⟨#[]⟩ : ByteArray),.slice none 0 0,.slice none 0 0]) ?_ 0 _ rfl;(with_reducible repeat (first|apply aA|apply aC|apply ay));exact xV.out) k_ hk_),(Kd.iw (g:=yg) (o:=.cells #[.int .i64 t233,.bool t234,.int .i64 yE,.string t236,.slice zw yJ.length zx,.slice zK yL.length zL] 33 (0,0)) (by (with_reducible repeat (first|apply aA|apply aC|apply ay));refine aR (cs:=#[.int .i64 t233,.bool t234,.int .i64 yE,.string t236,.slice zw yJ.length zx,.slice none 0 0]) ?_ 5 _ rfl;(with_reducible repeat (first|apply aA|apply aC|apply ay));refine aR (cs:=#[.int .i64 t233,.bool t234,.int .i64 yE,.string t236,.slice none 0 0,.slice none 0 0]) ?_ 4 _ rfl;(with_reducible repeat (first|apply aA|apply aC|apply ay));refine aR (cs:=#[.int .i64 t233,.bool t234,.int .i64 yE,.string (⟨#[]⟩ : ByteArray),.slice none 0 0,.slice none 0 0]) ?_ 3 _ rfl;(with_reducible repeat (first|apply aA|apply aC|apply ay));refine aR (cs:=#[.int .i64 t233,.bool t234,.int .i64 0,.string (⟨#[]⟩ : ByteArray),.slice none 0 0,.slice none 0 0]) ?_ 2 _ rfl;(with_reducible repeat (first|apply aA|apply aC|apply ay));refine aR (cs:=#[.int .i64 t233,.bool false,.int .i64 0,.string (⟨#[]⟩ : ByteArray),.slice none 0 0,.slice none 0 0]) ?_ 1 _ rfl;(with_reducible repeat (first|apply aA|apply aC|apply ay));refine aR (cs:=#[.int .i64 0,.bool false,.int .i64 0,.string (⟨#[]⟩ : ByteArray),.slice none 0 0,.slice none 0 0]) ?_ 0 _ rfl;(with_reducible repeat (first|apply aA|apply aC|apply ay));refine bE ?_ yj.out _;(with_reducible repeat (first|apply aA|apply aC|apply ay));refine bE ?_ yj.out _;(with_reducible repeat (first|apply aA|apply aC|apply ay));refine bE ?_ yj.out _;(with_reducible repeat (first|apply aA|apply aC|apply ay));refine bE ?_ yj.out _;(with_reducible repeat (first|apply aA|apply aC|apply ay));refine bE ?_ yj.out _;(with_reducible repeat (first|apply aA|apply aC|apply ay));refine bE ?_ yj.out _;(with_reducible repeat (first|apply aA|apply aC|apply ay));exact xW.out) k_ hk_)⟩)) (aM (by repeat (first|(with_reducible first|exact HB.out|apply av|apply ak|apply au|refine aD ?_ za.out|refine aD ?_ zD.out)|exact HB.out))));have zZ:=Aside0.mk (Kd.fQ (Kd.bM (ok':=fun k_=>k_ ≠ yc ∧ k_ ≠ yg) ho1 (fun k_ hk_=>⟨(Kd.iw (g:=yc) (o:=.cells #[.int .i64 yt,.bool yu,.int .i64 yw,.string t226,.slice ze t227.length zf,.slice zH yD.length zI] 29 (0,0)) (by (with_reducible repeat (first|apply aA|apply aC|apply ay));refine bE ?_ yh.out _;(with_reducible repeat (first|apply aA|apply aC|apply ay));refine bE ?_ yh.out _;(with_reducible repeat (first|apply aA|apply aC|apply ay));refine bE ?_ yh.out _;(with_reducible repeat (first|apply aA|apply aC|apply ay));refine bE ?_ yh.out _;(with_reducible repeat (first|apply aA|apply aC|apply ay));refine bE ?_ yh.out _;(with_reducible repeat (first|apply aA|apply aC|apply ay));refine bE ?_ yh.out _;(with_reducible repeat (first|apply aA|apply aC|apply ay));refine aR (cs:=#[.int .i64 yt,.bool yu,.int .i64 yw,.string t226,.slice ze t227.length zf,.slice none 0 0]) ?_ 5 _ rfl;(with_reducible repeat (first|apply aA|apply aC|apply ay));refine aR (cs:=#[.int .i64 yt,.bool yu,.int .i64 yw,.string t226,.slice none 0 0,.slice none 0 0]) ?_ 4 _ rfl;(with_reducible repeat (first|apply aA|apply aC|apply ay));refine aR (cs:=#[.int .i64 yt,.bool yu,.int .i64 yw,.string (⟨#[]⟩ : ByteArray),.slice none 0 0,.slice none 0 0]) ?_ 3 _ rfl;(with_reducible repeat (first|apply aA|apply aC|apply ay));refine aR (cs:=#[.int .i64 yt,.bool yu,.int .i64 0,.string (⟨#[]⟩ : ByteArray),.slice none 0 0,.slice none 0 0]) ?_ 2 _ rfl;(with_reducible repeat (first|apply aA|apply aC|apply ay));refine aR (cs:=#[.int .i64 yt,.bool false,.int .i64 0,.string (⟨#[]⟩ : ByteArray),.slice none 0 0,.slice none 0 0]) ?_ 1 _ rfl;(with_reducible repeat (first|apply aA|apply aC|apply ay));refine aR (cs:=#[.int .i64 0,.bool false,.int .i64 0,.string (⟨#[]⟩ : ByteArray),.slice none 0 0,.slice none 0 0]) ?_ 0 _ rfl;(with_reducible repeat (first|apply aA|apply aC|apply ay));exact xV.out) k_ hk_),(Kd.iw (g:=yg) (o:=.cells #[.int .i64 t233,.bool t234,.int .i64 yE,.string t236,.slice zw yJ.length zx,.slice zK yL.length zL] 33 (0,0)) (by (with_reducible repeat (first|apply aA|apply aC|apply ay));refine aR (cs:=#[.int .i64 t233,.bool t234,.int .i64 yE,.string t236,.slice zw yJ.length zx,.slice none 0 0]) ?_ 5 _ rfl;(with_reducible repeat (first|apply aA|apply aC|apply ay));refine aR (cs:=#[.int .i64 t233,.bool t234,.int .i64 yE,.string t236,.slice none 0 0,.slice none 0 0]) ?_ 4 _ rfl;(with_reducible repeat (first|apply aA|apply aC|apply ay));refine aR (cs:=#[.int .i64 t233,.bool t234,.int .i64 yE,.string (⟨#[]⟩ : ByteArray),.slice none 0 0,.slice none 0 0]) ?_ 3 _ rfl;(with_reducible repeat (first|apply aA|apply aC|apply ay));refine aR (cs:=#[.int .i64 t233,.bool t234,.int .i64 0,.string (⟨#[]⟩ : ByteArray),.slice none 0 0,.slice none 0 0]) ?_ 2 _ rfl;(with_reducible repeat (first|apply aA|apply aC|apply ay));refine aR (cs:=#[.int .i64 t233,.bool false,.int .i64 0,.string (⟨#[]⟩ : ByteArray),.slice none 0 0,.slice none 0 0]) ?_ 1 _ rfl;(with_reducible repeat (first|apply aA|apply aC|apply ay));refine aR (cs:=#[.int .i64 0,.bool false,.int .i64 0,.string (⟨#[]⟩ : ByteArray),.slice none 0 0,.slice none 0 0]) ?_ 0 _ rfl;(with_reducible repeat (first|apply aA|apply aC|apply ay));refine bE ?_ yj.out _;(with_reducible repeat (first|apply aA|apply aC|apply ay));refine bE ?_ yj.out _;(with_reducible repeat (first|apply aA|apply aC|apply ay));refine bE ?_ yj.out _;(with_reducible repeat (first|apply aA|apply aC|apply ay));refine bE ?_ yj.out _;(with_reducible repeat (first|apply aA|apply aC|apply ay));refine bE ?_ yj.out _;(with_reducible repeat (first|apply aA|apply aC|apply ay));refine bE ?_ yj.out _;(with_reducible repeat (first|apply aA|apply aC|apply ay));exact xW.out) k_ hk_)⟩)) (aM (by repeat (first|(with_reducible first|exact HB.out|apply av|apply ak|apply au|refine aD ?_ za.out|refine aD ?_ zD.out)|exact HB.out))));have z8:=Aside0.mk (Kd.fQ (Kd.bM (ok':=fun k_=>k_ ≠ yc ∧ k_ ≠ yg) ho2 (fun k_ hk_=>⟨(Kd.iw (g:=yc) (o:=.cells #[.int .i64 yt,.bool yu,.int .i64 yw,.string t226,.slice ze t227.length zf,.slice zH yD.length zI] 29 (0,0)) (by (with_reducible repeat (first|apply aA|apply aC|apply ay));refine bE ?_ yh.out _;(with_reducible repeat (first|apply aA|apply aC|apply ay));refine bE ?_ yh.out _;(with_reducible repeat (first|apply aA|apply aC|apply ay));refine bE ?_ yh.out _;(with_reducible repeat (first|apply aA|apply aC|apply ay));refine bE ?_ yh.out _;(with_reducible repeat (first|apply aA|apply aC|apply ay));refine bE ?_ yh.out _;(with_reducible repeat (first|apply aA|apply aC|apply ay));refine bE ?_ yh.out _;(with_reducible repeat (first|apply aA|apply aC|apply ay));refine aR (cs:=#[.int .i64 yt,.bool yu,.int .i64 yw,.string t226,.slice ze t227.length zf,.slice none 0 0]) ?_ 5 _ rfl;(with_reducible repeat (first|apply aA|apply aC|apply ay));refine aR (cs:=#[.int .i64 yt,.bool yu,.int .i64 yw,.string t226,.slice none 0 0,.slice none 0 0]) ?_ 4 _ rfl;(with_reducible repeat (first|apply aA|apply aC|apply ay));refine aR (cs:=#[.int .i64 yt,.bool yu,.int .i64 yw,.string (⟨#[]⟩ : ByteArray),.slice none 0 0,.slice none 0 0]) ?_ 3 _ rfl;(with_reducible repeat (first|apply aA|apply aC|apply ay));refine aR (cs:=#[.int .i64 yt,.bool yu,.int .i64 0,.string (⟨#[]⟩ : ByteArray),.slice none 0 0,.slice none 0 0]) ?_ 2 _ rfl;(with_reducible repeat (first|apply aA|apply aC|apply ay));refine aR (cs:=#[.int .i64 yt,.bool false,.int .i64 0,.string (⟨#[]⟩ : ByteArray),.slice none 0 0,.slice none 0 0]) ?_ 1 _ rfl;(with_reducible repeat (first|apply aA|apply aC|apply ay));refine aR (cs:=#[.int .i64 0,.bool false,.int .i64 0,.string (⟨#[]⟩ : ByteArray),.slice none 0 0,.slice none 0 0]) ?_ 0 _ rfl;(with_reducible repeat (first|apply aA|apply aC|apply ay));exact xV.out) k_ hk_),(Kd.iw (g:=yg) (o:=.cells #[.int .i64 t233,.bool t234,.int .i64 yE,.string t236,.slice zw yJ.length zx,.slice zK yL.length zL] 33 (0,0)) (by (with_reducible repeat (first|apply aA|apply aC|apply ay));refine aR (cs:=#[.int .i64 t233,.bool t234,.int .i64 yE,.string t236,.slice zw yJ.length zx,.slice none 0 0]) ?_ 5 _ rfl;(with_reducible repeat (first|apply aA|apply aC|apply ay));refine aR (cs:=#[.int .i64 t233,.bool t234,.int .i64 yE,.string t236,.slice none 0 0,.slice none 0 0]) ?_ 4 _ rfl;(with_reducible repeat (first|apply aA|apply aC|apply ay));refine aR (cs:=#[.int .i64 t233,.bool t234,.int .i64 yE,.string (⟨#[]⟩ : ByteArray),.slice none 0 0,.slice none 0 0]) ?_ 3 _ rfl;(with_reducible repeat (first|apply aA|apply aC|apply ay));refine aR (cs:=#[.int .i64 t233,.bool t234,.int .i64 0,.string (⟨#[]⟩ : ByteArray),.slice none 0 0,.slice none 0 0]) ?_ 2 _ rfl;(with_reducible repeat (first|apply aA|apply aC|apply ay));refine aR (cs:=#[.int .i64 t233,.bool false,.int .i64 0,.string (⟨#[]⟩ : ByteArray),.slice none 0 0,.slice none 0 0]) ?_ 1 _ rfl;(with_reducible repeat (first|apply aA|apply aC|apply ay));refine aR (cs:=#[.int .i64 0,.bool false,.int .i64 0,.string (⟨#[]⟩ : ByteArray),.slice none 0 0,.slice none 0 0]) ?_ 0 _ rfl;(with_reducible repeat (first|apply aA|apply aC|apply ay));refine bE ?_ yj.out _;(with_reducible repeat (first|apply aA|apply aC|apply ay));refine bE ?_ yj.out _;(with_reducible repeat (first|apply aA|apply aC|apply ay));refine bE ?_ yj.out _;(with_reducible repeat (first|apply aA|apply aC|apply ay));refine bE ?_ yj.out _;(with_reducible repeat (first|apply aA|apply aC|apply ay));refine bE ?_ yj.out _;(with_reducible repeat (first|apply aA|apply aC|apply ay));refine bE ?_ yj.out _;(with_reducible repeat (first|apply aA|apply aC|apply ay));exact xW.out) k_ hk_)⟩)) (aM (by repeat (first|(with_reducible first|exact HB.out|apply av|apply ak|apply au|refine aD ?_ za.out|refine aD ?_ zD.out)|exact HB.out))));have Ac:=Aside0.mk (Kd.fQ (Kd.bM (ok':=fun k_=>k_ ≠ yc ∧ k_ ≠ yg) ho3 (fun k_ hk_=>⟨(Kd.iw (g:=yc) (o:=.cells #[.int .i64 yt,.bool yu,.int .i64 yw,.string t226,.slice ze t227.length zf,.slice zH yD.length zI] 29 (0,0)) (by (with_reducible repeat (first|apply aA|apply aC|apply ay));refine bE ?_ yh.out _;(with_reducible repeat (first|apply aA|apply aC|apply ay));refine bE ?_ yh.out _;(with_reducible repeat (first|apply aA|apply aC|apply ay));refine bE ?_ yh.out _;(with_reducible repeat (first|apply aA|apply aC|apply ay));refine bE ?_ yh.out _;(with_reducible repeat (first|apply aA|apply aC|apply ay));refine bE ?_ yh.out _;(with_reducible repeat (first|apply aA|apply aC|apply ay));refine bE ?_ yh.out _;(with_reducible repeat (first|apply aA|apply aC|apply ay));refine aR (cs:=#[.int .i64 yt,.bool yu,.int .i64 yw,.string t226,.slice ze t227.length zf,.slice none 0 0]) ?_ 5 _ rfl;(with_reducible repeat (first|apply aA|apply aC|apply ay));refine aR (cs:=#[.int .i64 yt,.bool yu,.int .i64 yw,.string t226,.slice none 0 0,.slice none 0 0]) ?_ 4 _ rfl;(with_reducible repeat (first|apply aA|apply aC|apply ay));refine aR (cs:=#[.int .i64 yt,.bool yu,.int .i64 yw,.string (⟨#[]⟩ : ByteArray),.slice none 0 0,.slice none 0 0]) ?_ 3 _ rfl;(with_reducible repeat (first|apply aA|apply aC|apply ay));refine aR (cs:=#[.int .i64 yt,.bool yu,.int .i64 0,.string (⟨#[]⟩ : ByteArray),.slice none 0 0,.slice none 0 0]) ?_ 2 _ rfl;(with_reducible repeat (first|apply aA|apply aC|apply ay));refine aR (cs:=#[.int .i64 yt,.bool false,.int .i64 0,.string (⟨#[]⟩ : ByteArray),.slice none 0 0,.slice none 0 0]) ?_ 1 _ rfl;(with_reducible repeat (first|apply aA|apply aC|apply ay));refine aR (cs:=#[.int .i64 0,.bool false,.int .i64 0,.string (⟨#[]⟩ : ByteArray),.slice none 0 0,.slice none 0 0]) ?_ 0 _ rfl;(with_reducible repeat (first|apply aA|apply aC|apply ay));exact xV.out) k_ hk_),(Kd.iw (g:=yg) (o:=.cells #[.int .i64 t233,.bool t234,.int .i64 yE,.string t236,.slice zw yJ.length zx,.slice zK yL.length zL] 33 (0,0)) (by (with_reducible repeat (first|apply aA|apply aC|apply ay));refine aR (cs:=#[.int .i64 t233,.bool t234,.int .i64 yE,.string t236,.slice zw yJ.length zx,.slice none 0 0]) ?_ 5 _ rfl;(with_reducible repeat (first|apply aA|apply aC|apply ay));refine aR (cs:=#[.int .i64 t233,.bool t234,.int .i64 yE,.string t236,.slice none 0 0,.slice none 0 0]) ?_ 4 _ rfl;(with_reducible repeat (first|apply aA|apply aC|apply ay));refine aR (cs:=#[.int .i64 t233,.bool t234,.int .i64 yE,.string (⟨#[]⟩ : ByteArray),.slice none 0 0,.slice none 0 0]) ?_ 3 _ rfl;(with_reducible repeat (first|apply aA|apply aC|apply ay));refine aR (cs:=#[.int .i64 t233,.bool t234,.int .i64 0,.string (⟨#[]⟩ : ByteArray),.slice none 0 0,.slice none 0 0]) ?_ 2 _ rfl;(with_reducible repeat (first|apply aA|apply aC|apply ay));refine aR (cs:=#[.int .i64 t233,.bool false,.int .i64 0,.string (⟨#[]⟩ : ByteArray),.slice none 0 0,.slice none 0 0]) ?_ 1 _ rfl;(with_reducible repeat (first|apply aA|apply aC|apply ay));refine aR (cs:=#[.int .i64 0,.bool false,.int .i64 0,.string (⟨#[]⟩ : ByteArray),.slice none 0 0,.slice none 0 0]) ?_ 0 _ rfl;(with_reducible repeat (first|apply aA|apply aC|apply ay));refine bE ?_ yj.out _;(with_reducible repeat (first|apply aA|apply aC|apply ay));refine bE ?_ yj.out _;(with_reducible repeat (first|apply aA|apply aC|apply ay));refine bE ?_ yj.out _;(with_reducible repeat (first|apply aA|apply aC|apply ay));refine bE ?_ yj.out _;(with_reducible repeat (first|apply aA|apply aC|apply ay));refine bE ?_ yj.out _;(with_reducible repeat (first|apply aA|apply aC|apply ay));refine bE ?_ yj.out _;(with_reducible repeat (first|apply aA|apply aC|apply ay));exact xW.out) k_ hk_)⟩)) (aM (by repeat (first|(with_reducible first|exact HB.out|apply av|apply ak|apply au|refine aD ?_ za.out|refine aD ?_ zD.out)|exact HB.out))));have Ae:=Aside0.mk (aU (g:=yc) (o:=.cells #[.int .i64 yt,.bool yu,.int .i64 yw,.string t226,.slice ze t227.length zf,.slice zH yD.length zI] 29 (0,0)) (by (with_reducible repeat (first|apply aA|apply aC|apply ay));refine bE ?_ yh.out _;(with_reducible repeat (first|apply aA|apply aC|apply ay));refine bE ?_ yh.out _;(with_reducible repeat (first|apply aA|apply aC|apply ay));refine bE ?_ yh.out _;(with_reducible repeat (first|apply aA|apply aC|apply ay));refine bE ?_ yh.out _;(with_reducible repeat (first|apply aA|apply aC|apply ay));refine bE ?_ yh.out _;(with_reducible repeat (first|apply aA|apply aC|apply ay));refine bE ?_ yh.out _;(with_reducible repeat (first|apply aA|apply aC|apply ay));refine aR (cs:=#[.int .i64 yt,.bool yu,.int .i64 yw,.string t226,.slice ze t227.length zf,.slice none 0 0]) ?_ 5 _ rfl;(with_reducible repeat (first|apply aA|apply aC|apply ay));refine aR (cs:=#[.int .i64 yt,.bool yu,.int .i64 yw,.string t226,.slice none 0 0,.slice none 0 0]) ?_ 4 _ rfl;(with_reducible repeat (first|apply aA|apply aC|apply ay));refine aR (cs:=#[.int .i64 yt,.bool yu,.int .i64 yw,.string (⟨#[]⟩ : ByteArray),.slice none 0 0,.slice none 0 0]) ?_ 3 _ rfl;(with_reducible repeat (first|apply aA|apply aC|apply ay));refine aR (cs:=#[.int .i64 yt,.bool yu,.int .i64 0,.string (⟨#[]⟩ : ByteArray),.slice none 0 0,.slice none 0 0]) ?_ 2 _ rfl;(with_reducible repeat (first|apply aA|apply aC|apply ay));refine aR (cs:=#[.int .i64 yt,.bool false,.int .i64 0,.string (⟨#[]⟩ : ByteArray),.slice none 0 0,.slice none 0 0]) ?_ 1 _ rfl;(with_reducible repeat (first|apply aA|apply aC|apply ay));refine aR (cs:=#[.int .i64 0,.bool false,.int .i64 0,.string (⟨#[]⟩ : ByteArray),.slice none 0 0,.slice none 0 0]) ?_ 0 _ rfl;(with_reducible repeat (first|apply aA|apply aC|apply ay));exact xV.out) hb);have Af:=Aside0.mk (aU (g:=yg) (o:=.cells #[.int .i64 t233,.bool t234,.int .i64 yE,.string t236,.slice zw yJ.length zx,.slice zK yL.length zL] 33 (0,0)) (by (with_reducible repeat (first|apply aA|apply aC|apply ay));refine aR (cs:=#[.int .i64 t233,.bool t234,.int .i64 yE,.string t236,.slice zw yJ.length zx,.slice none 0 0]) ?_ 5 _ rfl;(with_reducible repeat (first|apply aA|apply aC|apply ay));refine aR (cs:=#[.int .i64 t233,.bool t234,.int .i64 yE,.string t236,.slice none 0 0,.slice none 0 0]) ?_ 4 _ rfl;(with_reducible repeat (first|apply aA|apply aC|apply ay));refine aR (cs:=#[.int .i64 t233,.bool t234,.int .i64 yE,.string (⟨#[]⟩ : ByteArray),.slice none 0 0,.slice none 0 0]) ?_ 3 _ rfl;(with_reducible repeat (first|apply aA|apply aC|apply ay));refine aR (cs:=#[.int .i64 t233,.bool t234,.int .i64 0,.string (⟨#[]⟩ : ByteArray),.slice none 0 0,.slice none 0 0]) ?_ 2 _ rfl;(with_reducible repeat (first|apply aA|apply aC|apply ay));refine aR (cs:=#[.int .i64 t233,.bool false,.int .i64 0,.string (⟨#[]⟩ : ByteArray),.slice none 0 0,.slice none 0 0]) ?_ 1 _ rfl;(with_reducible repeat (first|apply aA|apply aC|apply ay));refine aR (cs:=#[.int .i64 0,.bool false,.int .i64 0,.string (⟨#[]⟩ : ByteArray),.slice none 0 0,.slice none 0 0]) ?_ 0 _ rfl;(with_reducible repeat (first|apply aA|apply aC|apply ay));refine bE ?_ yj.out _;(with_reducible repeat (first|apply aA|apply aC|apply ay));refine bE ?_ yj.out _;(with_reducible repeat (first|apply aA|apply aC|apply ay));refine bE ?_ yj.out _;(with_reducible repeat (first|apply aA|apply aC|apply ay));refine bE ?_ yj.out _;(with_reducible repeat (first|apply aA|apply aC|apply ay));refine bE ?_ yj.out _;(with_reducible repeat (first|apply aA|apply aC|apply ay));refine bE ?_ yj.out _;(with_reducible repeat (first|apply aA|apply aC|apply ay));exact xW.out) hb);have yZ:=Aside0.mk (aT (by repeat (first|(with_reducible first|exact HB.out|apply av|apply ak|apply au|refine aD ?_ za.out|refine aD ?_ zD.out)|exact HB.out)) hb);clear yx;clear yA;clear yB;clear yC;clear xV;clear xW;clear HB;have yx:=zJ;have yA:=zV;have yB:=zW;have yC:=zX;have yF:=zY;have yG:=zZ;have yH:=z8;have yI:=Ac;have xV:=Ae;have xW:=Af;have HB:=yZ;clear zJ zV zW zX zY zZ z8 Ac Ae Af yZ;(try clear hb);(try clear hb2);(try clear hk);(try clear hi);(try clear ho0);(try clear ho1);(try clear ho2);(try clear ho3))|((with_reducible refine bV (N:=7) rfl ?_);refine bT ?hg (N:=7) ?hd (cs:=#[.int .i64 0,.bool false,.int .i64 0,.string (⟨#[]⟩ : ByteArray),.slice none 0 0,.slice none 0 0]) (t:=29) ?hr ?_;(case hd=>rfl);(case hg=>rfl);(case hr=>first|(go_simp;done)|(go_simp;rfl));intro xS hg En hbox hb;have zJ:=Aside0.mk (Kd.bq (Kd.dh (by (with_reducible repeat (first|apply Kd.aZ|apply Kd.bf|apply Kd.bF));exact yx.out) xS (Nat.le_of_eq hg.symm)) hb);have zV:=Aside0.mk (Kd.bq (Kd.dh (by (with_reducible repeat (first|apply Kd.aZ|apply Kd.bf|apply Kd.bF));exact yA.out) xS (Nat.le_of_eq hg.symm)) hb);have zW:=Aside0.mk (Kd.bq (Kd.dh (by (with_reducible repeat (first|apply Kd.aZ|apply Kd.bf|apply Kd.bF));exact yB.out) xS (Nat.le_of_eq hg.symm)) hb);have zX:=Aside0.mk (Kd.bq (Kd.dh (by (with_reducible repeat (first|apply Kd.aZ|apply Kd.bf|apply Kd.bF));exact yC.out) xS (Nat.le_of_eq hg.symm)) hb);have zY:=Aside0.mk (Kd.bq (Kd.dh (by (with_reducible repeat (first|apply Kd.aZ|apply Kd.bf|apply Kd.bF));exact yF.out) xS (Nat.le_of_eq hg.symm)) hb);have zZ:=Aside0.mk (Kd.bq (Kd.dh (by (with_reducible repeat (first|apply Kd.aZ|apply Kd.bf|apply Kd.bF));exact yG.out) xS (Nat.le_of_eq hg.symm)) hb);have z8:=Aside0.mk (Kd.bq (Kd.dh (by (with_reducible repeat (first|apply Kd.aZ|apply Kd.bf|apply Kd.bF));exact yH.out) xS (Nat.le_of_eq hg.symm)) hb);have Ac:=Aside0.mk (Kd.bq (Kd.dh (by (with_reducible repeat (first|apply Kd.aZ|apply Kd.bf|apply Kd.bF));exact yI.out) xS (Nat.le_of_eq hg.symm)) hb);have Ae:=Aside0.mk (aU (g:=yc) (o:=.cells #[.int .i64 yt,.bool yu,.int .i64 yw,.string t226,.slice ze t227.length zf,.slice zH yD.length zI] 29 (0,0)) (bk_ xV.out) hb);have Af:=Aside0.mk (aU (g:=yg) (o:=.cells #[.int .i64 t233,.bool t234,.int .i64 yE,.string t236,.slice zw yJ.length zx,.slice zK yL.length zL] 33 (0,0)) (bk_ xW.out) hb);have yZ:=Aside0.mk (aT (by repeat (first|(with_reducible first|exact HB.out|apply av|apply ak|apply au|refine aD ?_ za.out|refine aD ?_ zD.out)|exact HB.out)) hb);have zh:=Aside0.mk (hbox);have zi:=Aside0.mk ((by rw [hg];exact (aM (by repeat (first|(with_reducible first|exact HB.out|apply av|apply ak|apply au|refine aD ?_ za.out|refine aD ?_ zD.out)|exact HB.out))) : w.heap.size ≤ xS));have AU:=Aside0.mk ((by rw [hg];exact (aM (by repeat (first|(with_reducible first|exact HB.out|apply av|apply ak|apply au|refine aD ?_ za.out|refine aD ?_ zD.out)|exact HB.out))) : w.heap.size ≤ xS));have AV:=Aside0.mk ((by rw [hg];exact Nat.ne_of_lt (dn (g:=yc) (o:=.cells #[.int .i64 yt,.bool yu,.int .i64 yw,.string t226,.slice ze t227.length zf,.slice zH yD.length zI] 29 (0,0)) (bk_ xV.out)) : yc ≠ xS));have AX:=Aside0.mk ((by rw [hg];exact Nat.ne_of_gt (dn (g:=yc) (o:=.cells #[.int .i64 yt,.bool yu,.int .i64 yw,.string t226,.slice ze t227.length zf,.slice zH yD.length zI] 29 (0,0)) (bk_ xV.out)) : xS ≠ yc));have AY:=Aside0.mk ((by rw [hg];exact Nat.ne_of_lt (dn (g:=yg) (o:=.cells #[.int .i64 t233,.bool t234,.int .i64 yE,.string t236,.slice zw yJ.length zx,.slice zK yL.length zL] 33 (0,0)) (bk_ xW.out)) : yg ≠ xS));have AZ:=Aside0.mk ((by rw [hg];exact Nat.ne_of_gt (dn (g:=yg) (o:=.cells #[.int .i64 t233,.bool t234,.int .i64 yE,.string t236,.slice zw yJ.length zx,.slice zK yL.length zL] 33 (0,0)) (bk_ xW.out)) : xS ≠ yg));clear yx;clear yA;clear yB;clear yC;clear yF;clear yG;clear yH;clear yI;clear xV;clear xW;clear HB;have yx:=zJ;have yA:=zV;have yB:=zW;have yC:=zX;have yF:=zY;have yG:=zZ;have yH:=z8;have yI:=Ac;have xV:=Ae;have xW:=Af;have HB:=yZ;have xX:=zh;have Dt:=zi;have Ah:=AU;have zM:=AV;have AB:=AX;have zN:=AY;have AJ:=AZ;clear zJ zV zW zX zY zZ z8 Ac Ae Af yZ zh zi AU AV AX AY AZ;clear hb hbox hg)|((with_reducible refine bV (N:=8) rfl ?_);refine bT ?hg (N:=8) ?hd (cs:=#[.int .i64 0,.bool false,.int .i64 0,.string (⟨#[]⟩ : ByteArray),.slice none 0 0,.slice none 0 0]) (t:=33) ?hr ?_;(case hd=>rfl);(case hg=>rfl);(case hr=>first|(go_simp;done)|(go_simp;rfl));intro xU hg Al hbox hb;have zJ:=Aside0.mk (Kd.bq (Kd.dh (by (with_reducible repeat (first|apply Kd.aZ|apply Kd.bf|apply Kd.bF));exact yx.out) xU (Nat.le_of_eq hg.symm)) hb);have zV:=Aside0.mk (Kd.bq (Kd.dh (by (with_reducible repeat (first|apply Kd.aZ|apply Kd.bf|apply Kd.bF));exact yA.out) xU (Nat.le_of_eq hg.symm)) hb);have zW:=Aside0.mk (Kd.bq (Kd.dh (by (with_reducible repeat (first|apply Kd.aZ|apply Kd.bf|apply Kd.bF));exact yB.out) xU (Nat.le_of_eq hg.symm)) hb);have zX:=Aside0.mk (Kd.bq (Kd.dh (by (with_reducible repeat (first|apply Kd.aZ|apply Kd.bf|apply Kd.bF));exact yC.out) xU (Nat.le_of_eq hg.symm)) hb);have zY:=Aside0.mk (Kd.bq (Kd.dh (by (with_reducible repeat (first|apply Kd.aZ|apply Kd.bf|apply Kd.bF));exact yF.out) xU (Nat.le_of_eq hg.symm)) hb);have zZ:=Aside0.mk (Kd.bq (Kd.dh (by (with_reducible repeat (first|apply Kd.aZ|apply Kd.bf|apply Kd.bF));exact yG.out) xU (Nat.le_of_eq hg.symm)) hb);have z8:=Aside0.mk (Kd.bq (Kd.dh (by (with_reducible repeat (first|apply Kd.aZ|apply Kd.bf|apply Kd.bF));exact yH.out) xU (Nat.le_of_eq hg.symm)) hb);have Ac:=Aside0.mk (Kd.bq (Kd.dh (by (with_reducible repeat (first|apply Kd.aZ|apply Kd.bf|apply Kd.bF));exact yI.out) xU (Nat.le_of_eq hg.symm)) hb);have Ae:=Aside0.mk (aU (g:=yc) (o:=.cells #[.int .i64 yt,.bool yu,.int .i64 yw,.string t226,.slice ze t227.length zf,.slice zH yD.length zI] 29 (0,0)) (bk_ xV.out) hb);have Af:=Aside0.mk (aU (g:=yg) (o:=.cells #[.int .i64 t233,.bool t234,.int .i64 yE,.string t236,.slice zw yJ.length zx,.slice zK yL.length zL] 33 (0,0)) (bk_ xW.out) hb);have yZ:=Aside0.mk (aU (g:=xS) (o:=.cells #[.int .i64 0,.bool false,.int .i64 0,.string (⟨#[]⟩ : ByteArray),.slice none 0 0,.slice none 0 0] 29 (0,0)) (bk_ xX.out) hb);have zh:=Aside0.mk (aT (by repeat (first|(with_reducible first|exact HB.out|apply av|apply ak|apply au|refine aD ?_ za.out|refine aD ?_ zD.out|refine aD ?_ Ah.out)|exact HB.out)) hb);have zi:=Aside0.mk (hbox);have AU:=Aside0.mk ((by rw [hg];exact (aM (by repeat (first|(with_reducible first|exact HB.out|apply av|apply ak|apply au|refine aD ?_ za.out|refine aD ?_ zD.out|refine aD ?_ Ah.out)|exact HB.out))) : w.heap.size ≤ xU));have AV:=Aside0.mk ((by rw [hg];exact (aM (by repeat (first|(with_reducible first|exact HB.out|apply av|apply ak|apply au|refine aD ?_ za.out|refine aD ?_ zD.out|refine aD ?_ Ah.out)|exact HB.out))) : w.heap.size ≤ xU));have AX:=Aside0.mk ((by rw [hg];exact Nat.ne_of_lt (dn (g:=yc) (o:=.cells #[.int .i64 yt,.bool yu,.int .i64 yw,.string t226,.slice ze t227.length zf,.slice zH yD.length zI] 29 (0,0)) (bk_ xV.out)) : yc ≠ xU));have AY:=Aside0.mk ((by rw [hg];exact Nat.ne_of_gt (dn (g:=yc) (o:=.cells #[.int .i64 yt,.bool yu,.int .i64 yw,.string t226,.slice ze t227.length zf,.slice zH yD.length zI] 29 (0,0)) (bk_ xV.out)) : xU ≠ yc));have AZ:=Aside0.mk ((by rw [hg];exact Nat.ne_of_lt (dn (g:=yg) (o:=.cells #[.int .i64 t233,.bool t234,.int .i64 yE,.string t236,.slice zw yJ.length zx,.slice zK yL.length zL] 33 (0,0)) (bk_ xW.out)) : yg ≠ xU));have BD:=Aside0.mk ((by rw [hg];exact Nat.ne_of_gt (dn (g:=yg) (o:=.cells #[.int .i64 t233,.bool t234,.int .i64 yE,.string t236,.slice zw yJ.length zx,.slice zK yL.length zL] 33 (0,0)) (bk_ xW.out)) : xU ≠ yg));have BF:=Aside0.mk ((by rw [hg];exact Nat.ne_of_lt (dn (g:=xS) (o:=.cells #[.int .i64 0,.bool false,.int .i64 0,.string (⟨#[]⟩ : ByteArray),.slice none 0 0,.slice none 0 0] 29 (0,0)) (bk_ xX.out)) : xS ≠ xU));have BG:=Aside0.mk ((by rw [hg];exact Nat.ne_of_gt (dn (g:=xS) (o:=.cells #[.int .i64 0,.bool false,.int .i64 0,.string (⟨#[]⟩ : ByteArray),.slice none 0 0,.slice none 0 0] 29 (0,0)) (bk_ xX.out)) : xU ≠ xS));clear yx;clear yA;clear yB;clear yC;clear yF;clear yG;clear yH;clear yI;clear xV;clear xW;clear xX;clear HB;have yx:=zJ;have yA:=zV;have yB:=zW;have yC:=zX;have yF:=zY;have yG:=zZ;have yH:=z8;have yI:=Ac;have xV:=Ae;have xW:=Af;have xX:=yZ;have HB:=zh;have xZ:=zi;have Du:=AU;have Ak:=AV;have zO:=AX;have AL:=AY;have zP:=AZ;have AO:=BD;have zQ:=BF;have zR:=BG;clear zJ zV zW zX zY zZ z8 Ac Ae Af yZ zh zi AU AV AX AY AZ BD BF BG;clear hb hbox hg;have Dv:=AB.out;have Dw:=zM.out;have Dx:=AJ.out;have Dy:=zN.out;have Dz:=zQ.out;have DC:=zR.out;have Cn : Al.cell? ⟨xS,0,none⟩ = some (.int .i64 0):=(ah xX.out 0).trans rfl;have Co : Al.cell? ⟨xS,1,none⟩ = some (.bool false):=(ah xX.out 1).trans rfl;have Cq : Al.cell? ⟨xS,2,none⟩ = some (.int .i64 0):=(ah xX.out 2).trans rfl;have Cr : Al.cell? ⟨xS,3,none⟩ = some (.string (⟨#[]⟩ : ByteArray)):=(ah xX.out 3).trans rfl;have Ct : Al.cell? ⟨xS,4,none⟩ = some (.slice none 0 0):=(ah xX.out 4).trans rfl;have Cu : Al.cell? ⟨xS,5,none⟩ = some (.slice none 0 0):=(ah xX.out 5).trans rfl;have Cv:=aj xX.out 0;have Cw:=aj xX.out 1;have Cx:=aj xX.out 2;have Cy:=aj xX.out 3;have Cz:=aj xX.out 4;have CB:=aj xX.out 5;obtain ⟨zm,zn,Df⟩:=Kd.dQ yF.out;subst Df;obtain ⟨zy,zA,Dh⟩:=Kd.dQ yG.out;subst Dh;have DF:=AL.out;have DI:=zO.out;have DJ:=AO.out;have DK:=zP.out;have CF : Al.cell? ⟨xU,0,none⟩ = some (.int .i64 0):=(ah xZ.out 0).trans rfl;have CG : Al.cell? ⟨xU,1,none⟩ = some (.bool false):=(ah xZ.out 1).trans rfl;have CJ : Al.cell? ⟨xU,2,none⟩ = some (.int .i64 0):=(ah xZ.out 2).trans rfl;have CK : Al.cell? ⟨xU,3,none⟩ = some (.string (⟨#[]⟩ : ByteArray)):=(ah xZ.out 3).trans rfl;have CO : Al.cell? ⟨xU,4,none⟩ = some (.slice none 0 0):=(ah xZ.out 4).trans rfl;have CP : Al.cell? ⟨xU,5,none⟩ = some (.slice none 0 0):=(ah xZ.out 5).trans rfl;have CQ:=aj xZ.out 0;have CS:=aj xZ.out 1;have CU:=aj xZ.out 2;have CV:=aj xZ.out 3;have CW:=aj xZ.out 4;have CX:=aj xZ.out 5;obtain ⟨zo,zq,Di⟩:=Kd.dQ yH.out;subst Di;obtain ⟨zB,zC,Dj⟩:=Kd.dQ yI.out;subst Dj))
        have zJ : Aside0 (Kd.V k29 29 ((((((((((((Al.setCell ⟨xS,0,none⟩ (.int .i64 yN)).setCell ⟨xS,1,none⟩ (.bool yP)).setCell ⟨xS,2,none⟩ (.int .i64 yS)).setCell ⟨xS,3,none⟩ (.string yX)).setCell ⟨xS,4,none⟩ (.slice zm yT.length zn)).setCell ⟨xS,5,none⟩ (.slice zy yY.length zA)).setCell ⟨xU,0,none⟩ (.int .i64 yM)).setCell ⟨xU,1,none⟩ (.bool yO)).setCell ⟨xU,2,none⟩ (.int .i64 yQ)).setCell ⟨xU,3,none⟩ (.string yU)).setCell ⟨xU,4,none⟩ (.slice zo yR.length zq)).setCell ⟨xU,5,none⟩ (.slice zB yV.length zC)) w.heap.size (fun k_=>k_ ≠ yc ∧ k_ ≠ yg ∧ k_ ≠ xS ∧ k_ ≠ xU) (.slice ze t227.length zf) t227):=⟨by (with_reducible repeat (first|apply Kd.aZ|apply Kd.bf|apply Kd.bF));exact Kd.bM (Kd.aX (p:=⟨xU,5,none⟩) (Kd.aX (p:=⟨xU,4,none⟩) (Kd.aX (p:=⟨xU,3,none⟩) (Kd.aX (p:=⟨xU,2,none⟩) (Kd.aX (p:=⟨xU,1,none⟩) (Kd.aX (p:=⟨xU,0,none⟩) (Kd.aX (p:=⟨xS,5,none⟩) (Kd.aX (p:=⟨xS,4,none⟩) (Kd.aX (p:=⟨xS,3,none⟩) (Kd.aX (p:=⟨xS,2,none⟩) (Kd.aX (p:=⟨xS,1,none⟩) (Kd.aX (p:=⟨xS,0,none⟩) (Kd.bM (Kd.bM yx.out (fun k_ hk=>(⟨hk,hk.1.2⟩ : _ ∧ k_ ≠ xS))) (fun k_ hk=>(⟨hk,hk.1.2⟩ : _ ∧ k_ ≠ xU))) (fun _ hk=>hk.1.2) (.int .i64 yN)) (fun _ hk=>hk.1.2) (.bool yP)) (fun _ hk=>hk.1.2) (.int .i64 yS)) (fun _ hk=>hk.1.2) (.string yX)) (fun _ hk=>hk.1.2) (.slice zm yT.length zn)) (fun _ hk=>hk.1.2) (.slice zy yY.length zA)) (fun _ hk=>hk.2) (.int .i64 yM)) (fun _ hk=>hk.2) (.bool yO)) (fun _ hk=>hk.2) (.int .i64 yQ)) (fun _ hk=>hk.2) (.string yU)) (fun _ hk=>hk.2) (.slice zo yR.length zq)) (fun _ hk=>hk.2) (.slice zB yV.length zC)) (fun _ hk=>⟨hk.1.1.1.1.1.2,⟨hk.1.1.1.1.2,⟨hk.1.1.1.2,hk.1.1.2⟩⟩⟩)⟩
        have zV : Aside0 (Kd.V k48 48 ((((((((((((Al.setCell ⟨xS,0,none⟩ (.int .i64 yN)).setCell ⟨xS,1,none⟩ (.bool yP)).setCell ⟨xS,2,none⟩ (.int .i64 yS)).setCell ⟨xS,3,none⟩ (.string yX)).setCell ⟨xS,4,none⟩ (.slice zm yT.length zn)).setCell ⟨xS,5,none⟩ (.slice zy yY.length zA)).setCell ⟨xU,0,none⟩ (.int .i64 yM)).setCell ⟨xU,1,none⟩ (.bool yO)).setCell ⟨xU,2,none⟩ (.int .i64 yQ)).setCell ⟨xU,3,none⟩ (.string yU)).setCell ⟨xU,4,none⟩ (.slice zo yR.length zq)).setCell ⟨xU,5,none⟩ (.slice zB yV.length zC)) w.heap.size (fun k_=>k_ ≠ yc ∧ k_ ≠ yg ∧ k_ ≠ xS ∧ k_ ≠ xU) (.slice zH yD.length zI) yD):=⟨by (with_reducible repeat (first|apply Kd.aZ|apply Kd.bf|apply Kd.bF));exact Kd.bM (Kd.aX (p:=⟨xU,5,none⟩) (Kd.aX (p:=⟨xU,4,none⟩) (Kd.aX (p:=⟨xU,3,none⟩) (Kd.aX (p:=⟨xU,2,none⟩) (Kd.aX (p:=⟨xU,1,none⟩) (Kd.aX (p:=⟨xU,0,none⟩) (Kd.aX (p:=⟨xS,5,none⟩) (Kd.aX (p:=⟨xS,4,none⟩) (Kd.aX (p:=⟨xS,3,none⟩) (Kd.aX (p:=⟨xS,2,none⟩) (Kd.aX (p:=⟨xS,1,none⟩) (Kd.aX (p:=⟨xS,0,none⟩) (Kd.bM (Kd.bM yA.out (fun k_ hk=>(⟨hk,hk.1.2⟩ : _ ∧ k_ ≠ xS))) (fun k_ hk=>(⟨hk,hk.1.2⟩ : _ ∧ k_ ≠ xU))) (fun _ hk=>hk.1.2) (.int .i64 yN)) (fun _ hk=>hk.1.2) (.bool yP)) (fun _ hk=>hk.1.2) (.int .i64 yS)) (fun _ hk=>hk.1.2) (.string yX)) (fun _ hk=>hk.1.2) (.slice zm yT.length zn)) (fun _ hk=>hk.1.2) (.slice zy yY.length zA)) (fun _ hk=>hk.2) (.int .i64 yM)) (fun _ hk=>hk.2) (.bool yO)) (fun _ hk=>hk.2) (.int .i64 yQ)) (fun _ hk=>hk.2) (.string yU)) (fun _ hk=>hk.2) (.slice zo yR.length zq)) (fun _ hk=>hk.2) (.slice zB yV.length zC)) (fun _ hk=>⟨hk.1.1.1.1.1.2,⟨hk.1.1.1.1.2,⟨hk.1.1.1.2,hk.1.1.2⟩⟩⟩)⟩
        have zW : Aside0 (Kd.V k33 33 ((((((((((((Al.setCell ⟨xS,0,none⟩ (.int .i64 yN)).setCell ⟨xS,1,none⟩ (.bool yP)).setCell ⟨xS,2,none⟩ (.int .i64 yS)).setCell ⟨xS,3,none⟩ (.string yX)).setCell ⟨xS,4,none⟩ (.slice zm yT.length zn)).setCell ⟨xS,5,none⟩ (.slice zy yY.length zA)).setCell ⟨xU,0,none⟩ (.int .i64 yM)).setCell ⟨xU,1,none⟩ (.bool yO)).setCell ⟨xU,2,none⟩ (.int .i64 yQ)).setCell ⟨xU,3,none⟩ (.string yU)).setCell ⟨xU,4,none⟩ (.slice zo yR.length zq)).setCell ⟨xU,5,none⟩ (.slice zB yV.length zC)) w.heap.size (fun k_=>k_ ≠ yc ∧ k_ ≠ yg ∧ k_ ≠ xS ∧ k_ ≠ xU) (.slice zw yJ.length zx) yJ):=⟨by (with_reducible repeat (first|apply Kd.aZ|apply Kd.bf|apply Kd.bF));exact Kd.bM (Kd.aX (p:=⟨xU,5,none⟩) (Kd.aX (p:=⟨xU,4,none⟩) (Kd.aX (p:=⟨xU,3,none⟩) (Kd.aX (p:=⟨xU,2,none⟩) (Kd.aX (p:=⟨xU,1,none⟩) (Kd.aX (p:=⟨xU,0,none⟩) (Kd.aX (p:=⟨xS,5,none⟩) (Kd.aX (p:=⟨xS,4,none⟩) (Kd.aX (p:=⟨xS,3,none⟩) (Kd.aX (p:=⟨xS,2,none⟩) (Kd.aX (p:=⟨xS,1,none⟩) (Kd.aX (p:=⟨xS,0,none⟩) (Kd.bM (Kd.bM yB.out (fun k_ hk=>(⟨hk,hk.1.2⟩ : _ ∧ k_ ≠ xS))) (fun k_ hk=>(⟨hk,hk.1.2⟩ : _ ∧ k_ ≠ xU))) (fun _ hk=>hk.1.2) (.int .i64 yN)) (fun _ hk=>hk.1.2) (.bool yP)) (fun _ hk=>hk.1.2) (.int .i64 yS)) (fun _ hk=>hk.1.2) (.string yX)) (fun _ hk=>hk.1.2) (.slice zm yT.length zn)) (fun _ hk=>hk.1.2) (.slice zy yY.length zA)) (fun _ hk=>hk.2) (.int .i64 yM)) (fun _ hk=>hk.2) (.bool yO)) (fun _ hk=>hk.2) (.int .i64 yQ)) (fun _ hk=>hk.2) (.string yU)) (fun _ hk=>hk.2) (.slice zo yR.length zq)) (fun _ hk=>hk.2) (.slice zB yV.length zC)) (fun _ hk=>⟨hk.1.1.1.1.1.2,⟨hk.1.1.1.1.2,⟨hk.1.1.1.2,hk.1.1.2⟩⟩⟩)⟩
        have zX : Aside0 (Kd.V k50 50 ((((((((((((Al.setCell ⟨xS,0,none⟩ (.int .i64 yN)).setCell ⟨xS,1,none⟩ (.bool yP)).setCell ⟨xS,2,none⟩ (.int .i64 yS)).setCell ⟨xS,3,none⟩ (.string yX)).setCell ⟨xS,4,none⟩ (.slice zm yT.length zn)).setCell ⟨xS,5,none⟩ (.slice zy yY.length zA)).setCell ⟨xU,0,none⟩ (.int .i64 yM)).setCell ⟨xU,1,none⟩ (.bool yO)).setCell ⟨xU,2,none⟩ (.int .i64 yQ)).setCell ⟨xU,3,none⟩ (.string yU)).setCell ⟨xU,4,none⟩ (.slice zo yR.length zq)).setCell ⟨xU,5,none⟩ (.slice zB yV.length zC)) w.heap.size (fun k_=>k_ ≠ yc ∧ k_ ≠ yg ∧ k_ ≠ xS ∧ k_ ≠ xU) (.slice zK yL.length zL) yL):=⟨by (with_reducible repeat (first|apply Kd.aZ|apply Kd.bf|apply Kd.bF));exact Kd.bM (Kd.aX (p:=⟨xU,5,none⟩) (Kd.aX (p:=⟨xU,4,none⟩) (Kd.aX (p:=⟨xU,3,none⟩) (Kd.aX (p:=⟨xU,2,none⟩) (Kd.aX (p:=⟨xU,1,none⟩) (Kd.aX (p:=⟨xU,0,none⟩) (Kd.aX (p:=⟨xS,5,none⟩) (Kd.aX (p:=⟨xS,4,none⟩) (Kd.aX (p:=⟨xS,3,none⟩) (Kd.aX (p:=⟨xS,2,none⟩) (Kd.aX (p:=⟨xS,1,none⟩) (Kd.aX (p:=⟨xS,0,none⟩) (Kd.bM (Kd.bM yC.out (fun k_ hk=>(⟨hk,hk.1.2⟩ : _ ∧ k_ ≠ xS))) (fun k_ hk=>(⟨hk,hk.1.2⟩ : _ ∧ k_ ≠ xU))) (fun _ hk=>hk.1.2) (.int .i64 yN)) (fun _ hk=>hk.1.2) (.bool yP)) (fun _ hk=>hk.1.2) (.int .i64 yS)) (fun _ hk=>hk.1.2) (.string yX)) (fun _ hk=>hk.1.2) (.slice zm yT.length zn)) (fun _ hk=>hk.1.2) (.slice zy yY.length zA)) (fun _ hk=>hk.2) (.int .i64 yM)) (fun _ hk=>hk.2) (.bool yO)) (fun _ hk=>hk.2) (.int .i64 yQ)) (fun _ hk=>hk.2) (.string yU)) (fun _ hk=>hk.2) (.slice zo yR.length zq)) (fun _ hk=>hk.2) (.slice zB yV.length zC)) (fun _ hk=>⟨hk.1.1.1.1.1.2,⟨hk.1.1.1.1.2,⟨hk.1.1.1.2,hk.1.1.2⟩⟩⟩)⟩
        have zY : Aside0 (Kd.V k29 29 ((((((((((((Al.setCell ⟨xS,0,none⟩ (.int .i64 yN)).setCell ⟨xS,1,none⟩ (.bool yP)).setCell ⟨xS,2,none⟩ (.int .i64 yS)).setCell ⟨xS,3,none⟩ (.string yX)).setCell ⟨xS,4,none⟩ (.slice zm yT.length zn)).setCell ⟨xS,5,none⟩ (.slice zy yY.length zA)).setCell ⟨xU,0,none⟩ (.int .i64 yM)).setCell ⟨xU,1,none⟩ (.bool yO)).setCell ⟨xU,2,none⟩ (.int .i64 yQ)).setCell ⟨xU,3,none⟩ (.string yU)).setCell ⟨xU,4,none⟩ (.slice zo yR.length zq)).setCell ⟨xU,5,none⟩ (.slice zB yV.length zC)) w.heap.size (fun k_=>k_ ≠ yc ∧ k_ ≠ yg ∧ k_ ≠ xS ∧ k_ ≠ xU) (.slice zm yT.length zn) yT):=⟨by (with_reducible repeat (first|apply Kd.aZ|apply Kd.bf|apply Kd.bF));exact Kd.bM (Kd.aX (p:=⟨xU,5,none⟩) (Kd.aX (p:=⟨xU,4,none⟩) (Kd.aX (p:=⟨xU,3,none⟩) (Kd.aX (p:=⟨xU,2,none⟩) (Kd.aX (p:=⟨xU,1,none⟩) (Kd.aX (p:=⟨xU,0,none⟩) (Kd.aX (p:=⟨xS,5,none⟩) (Kd.aX (p:=⟨xS,4,none⟩) (Kd.aX (p:=⟨xS,3,none⟩) (Kd.aX (p:=⟨xS,2,none⟩) (Kd.aX (p:=⟨xS,1,none⟩) (Kd.aX (p:=⟨xS,0,none⟩) (Kd.bM (Kd.bM yF.out (fun k_ hk=>(⟨hk,hk.1.2⟩ : _ ∧ k_ ≠ xS))) (fun k_ hk=>(⟨hk,hk.1.2⟩ : _ ∧ k_ ≠ xU))) (fun _ hk=>hk.1.2) (.int .i64 yN)) (fun _ hk=>hk.1.2) (.bool yP)) (fun _ hk=>hk.1.2) (.int .i64 yS)) (fun _ hk=>hk.1.2) (.string yX)) (fun _ hk=>hk.1.2) (.slice zm yT.length zn)) (fun _ hk=>hk.1.2) (.slice zy yY.length zA)) (fun _ hk=>hk.2) (.int .i64 yM)) (fun _ hk=>hk.2) (.bool yO)) (fun _ hk=>hk.2) (.int .i64 yQ)) (fun _ hk=>hk.2) (.string yU)) (fun _ hk=>hk.2) (.slice zo yR.length zq)) (fun _ hk=>hk.2) (.slice zB yV.length zC)) (fun _ hk=>⟨hk.1.1.1.1.1,⟨hk.1.1.1.1.2,⟨hk.1.1.1.2,hk.1.1.2⟩⟩⟩)⟩
        have zZ : Aside0 (Kd.V k48 48 ((((((((((((Al.setCell ⟨xS,0,none⟩ (.int .i64 yN)).setCell ⟨xS,1,none⟩ (.bool yP)).setCell ⟨xS,2,none⟩ (.int .i64 yS)).setCell ⟨xS,3,none⟩ (.string yX)).setCell ⟨xS,4,none⟩ (.slice zm yT.length zn)).setCell ⟨xS,5,none⟩ (.slice zy yY.length zA)).setCell ⟨xU,0,none⟩ (.int .i64 yM)).setCell ⟨xU,1,none⟩ (.bool yO)).setCell ⟨xU,2,none⟩ (.int .i64 yQ)).setCell ⟨xU,3,none⟩ (.string yU)).setCell ⟨xU,4,none⟩ (.slice zo yR.length zq)).setCell ⟨xU,5,none⟩ (.slice zB yV.length zC)) w.heap.size (fun k_=>k_ ≠ yc ∧ k_ ≠ yg ∧ k_ ≠ xS ∧ k_ ≠ xU) (.slice zy yY.length zA) yY):=⟨by (with_reducible repeat (first|apply Kd.aZ|apply Kd.bf|apply Kd.bF));exact Kd.bM (Kd.aX (p:=⟨xU,5,none⟩) (Kd.aX (p:=⟨xU,4,none⟩) (Kd.aX (p:=⟨xU,3,none⟩) (Kd.aX (p:=⟨xU,2,none⟩) (Kd.aX (p:=⟨xU,1,none⟩) (Kd.aX (p:=⟨xU,0,none⟩) (Kd.aX (p:=⟨xS,5,none⟩) (Kd.aX (p:=⟨xS,4,none⟩) (Kd.aX (p:=⟨xS,3,none⟩) (Kd.aX (p:=⟨xS,2,none⟩) (Kd.aX (p:=⟨xS,1,none⟩) (Kd.aX (p:=⟨xS,0,none⟩) (Kd.bM (Kd.bM yG.out (fun k_ hk=>(⟨hk,hk.1.2⟩ : _ ∧ k_ ≠ xS))) (fun k_ hk=>(⟨hk,hk.1.2⟩ : _ ∧ k_ ≠ xU))) (fun _ hk=>hk.1.2) (.int .i64 yN)) (fun _ hk=>hk.1.2) (.bool yP)) (fun _ hk=>hk.1.2) (.int .i64 yS)) (fun _ hk=>hk.1.2) (.string yX)) (fun _ hk=>hk.1.2) (.slice zm yT.length zn)) (fun _ hk=>hk.1.2) (.slice zy yY.length zA)) (fun _ hk=>hk.2) (.int .i64 yM)) (fun _ hk=>hk.2) (.bool yO)) (fun _ hk=>hk.2) (.int .i64 yQ)) (fun _ hk=>hk.2) (.string yU)) (fun _ hk=>hk.2) (.slice zo yR.length zq)) (fun _ hk=>hk.2) (.slice zB yV.length zC)) (fun _ hk=>⟨hk.1.1.1.1.1,⟨hk.1.1.1.1.2,⟨hk.1.1.1.2,hk.1.1.2⟩⟩⟩)⟩
        have z8 : Aside0 (Kd.V k33 33 ((((((((((((Al.setCell ⟨xS,0,none⟩ (.int .i64 yN)).setCell ⟨xS,1,none⟩ (.bool yP)).setCell ⟨xS,2,none⟩ (.int .i64 yS)).setCell ⟨xS,3,none⟩ (.string yX)).setCell ⟨xS,4,none⟩ (.slice zm yT.length zn)).setCell ⟨xS,5,none⟩ (.slice zy yY.length zA)).setCell ⟨xU,0,none⟩ (.int .i64 yM)).setCell ⟨xU,1,none⟩ (.bool yO)).setCell ⟨xU,2,none⟩ (.int .i64 yQ)).setCell ⟨xU,3,none⟩ (.string yU)).setCell ⟨xU,4,none⟩ (.slice zo yR.length zq)).setCell ⟨xU,5,none⟩ (.slice zB yV.length zC)) w.heap.size (fun k_=>k_ ≠ yc ∧ k_ ≠ yg ∧ k_ ≠ xS ∧ k_ ≠ xU) (.slice zo yR.length zq) yR):=⟨by (with_reducible repeat (first|apply Kd.aZ|apply Kd.bf|apply Kd.bF));exact Kd.bM (Kd.aX (p:=⟨xU,5,none⟩) (Kd.aX (p:=⟨xU,4,none⟩) (Kd.aX (p:=⟨xU,3,none⟩) (Kd.aX (p:=⟨xU,2,none⟩) (Kd.aX (p:=⟨xU,1,none⟩) (Kd.aX (p:=⟨xU,0,none⟩) (Kd.aX (p:=⟨xS,5,none⟩) (Kd.aX (p:=⟨xS,4,none⟩) (Kd.aX (p:=⟨xS,3,none⟩) (Kd.aX (p:=⟨xS,2,none⟩) (Kd.aX (p:=⟨xS,1,none⟩) (Kd.aX (p:=⟨xS,0,none⟩) (Kd.bM (Kd.bM yH.out (fun k_ hk=>(⟨hk,hk.1.2⟩ : _ ∧ k_ ≠ xS))) (fun k_ hk=>(⟨hk,hk.1.2⟩ : _ ∧ k_ ≠ xU))) (fun _ hk=>hk.1.2) (.int .i64 yN)) (fun _ hk=>hk.1.2) (.bool yP)) (fun _ hk=>hk.1.2) (.int .i64 yS)) (fun _ hk=>hk.1.2) (.string yX)) (fun _ hk=>hk.1.2) (.slice zm yT.length zn)) (fun _ hk=>hk.1.2) (.slice zy yY.length zA)) (fun _ hk=>hk.2) (.int .i64 yM)) (fun _ hk=>hk.2) (.bool yO)) (fun _ hk=>hk.2) (.int .i64 yQ)) (fun _ hk=>hk.2) (.string yU)) (fun _ hk=>hk.2) (.slice zo yR.length zq)) (fun _ hk=>hk.2) (.slice zB yV.length zC)) (fun _ hk=>⟨hk.1.1.1.1.1,⟨hk.1.1.1.1.2,⟨hk.1.1.1.2,hk.1.1.2⟩⟩⟩)⟩
        have Ac : Aside0 (Kd.V k50 50 ((((((((((((Al.setCell ⟨xS,0,none⟩ (.int .i64 yN)).setCell ⟨xS,1,none⟩ (.bool yP)).setCell ⟨xS,2,none⟩ (.int .i64 yS)).setCell ⟨xS,3,none⟩ (.string yX)).setCell ⟨xS,4,none⟩ (.slice zm yT.length zn)).setCell ⟨xS,5,none⟩ (.slice zy yY.length zA)).setCell ⟨xU,0,none⟩ (.int .i64 yM)).setCell ⟨xU,1,none⟩ (.bool yO)).setCell ⟨xU,2,none⟩ (.int .i64 yQ)).setCell ⟨xU,3,none⟩ (.string yU)).setCell ⟨xU,4,none⟩ (.slice zo yR.length zq)).setCell ⟨xU,5,none⟩ (.slice zB yV.length zC)) w.heap.size (fun k_=>k_ ≠ yc ∧ k_ ≠ yg ∧ k_ ≠ xS ∧ k_ ≠ xU) (.slice zB yV.length zC) yV):=⟨by (with_reducible repeat (first|apply Kd.aZ|apply Kd.bf|apply Kd.bF));exact Kd.bM (Kd.aX (p:=⟨xU,5,none⟩) (Kd.aX (p:=⟨xU,4,none⟩) (Kd.aX (p:=⟨xU,3,none⟩) (Kd.aX (p:=⟨xU,2,none⟩) (Kd.aX (p:=⟨xU,1,none⟩) (Kd.aX (p:=⟨xU,0,none⟩) (Kd.aX (p:=⟨xS,5,none⟩) (Kd.aX (p:=⟨xS,4,none⟩) (Kd.aX (p:=⟨xS,3,none⟩) (Kd.aX (p:=⟨xS,2,none⟩) (Kd.aX (p:=⟨xS,1,none⟩) (Kd.aX (p:=⟨xS,0,none⟩) (Kd.bM (Kd.bM yI.out (fun k_ hk=>(⟨hk,hk.1.2⟩ : _ ∧ k_ ≠ xS))) (fun k_ hk=>(⟨hk,hk.1.2⟩ : _ ∧ k_ ≠ xU))) (fun _ hk=>hk.1.2) (.int .i64 yN)) (fun _ hk=>hk.1.2) (.bool yP)) (fun _ hk=>hk.1.2) (.int .i64 yS)) (fun _ hk=>hk.1.2) (.string yX)) (fun _ hk=>hk.1.2) (.slice zm yT.length zn)) (fun _ hk=>hk.1.2) (.slice zy yY.length zA)) (fun _ hk=>hk.2) (.int .i64 yM)) (fun _ hk=>hk.2) (.bool yO)) (fun _ hk=>hk.2) (.int .i64 yQ)) (fun _ hk=>hk.2) (.string yU)) (fun _ hk=>hk.2) (.slice zo yR.length zq)) (fun _ hk=>hk.2) (.slice zB yV.length zC)) (fun _ hk=>⟨hk.1.1.1.1.1,⟨hk.1.1.1.1.2,⟨hk.1.1.1.2,hk.1.1.2⟩⟩⟩)⟩
        have Ae : Aside0 (((((((((((((Al.setCell ⟨xS,0,none⟩ (.int .i64 yN)).setCell ⟨xS,1,none⟩ (.bool yP)).setCell ⟨xS,2,none⟩ (.int .i64 yS)).setCell ⟨xS,3,none⟩ (.string yX)).setCell ⟨xS,4,none⟩ (.slice zm yT.length zn)).setCell ⟨xS,5,none⟩ (.slice zy yY.length zA)).setCell ⟨xU,0,none⟩ (.int .i64 yM)).setCell ⟨xU,1,none⟩ (.bool yO)).setCell ⟨xU,2,none⟩ (.int .i64 yQ)).setCell ⟨xU,3,none⟩ (.string yU)).setCell ⟨xU,4,none⟩ (.slice zo yR.length zq)).setCell ⟨xU,5,none⟩ (.slice zB yV.length zC)).heap[yc]? = some (.cells #[.int .i64 yt,.bool yu,.int .i64 yw,.string t226,.slice ze t227.length zf,.slice zH yD.length zI] 29 (0,0))):=⟨by (with_reducible repeat (first|apply aA|apply aC|apply ay));refine bE ?_ zO.out _;(with_reducible repeat (first|apply aA|apply aC|apply ay));refine bE ?_ zO.out _;(with_reducible repeat (first|apply aA|apply aC|apply ay));refine bE ?_ zO.out _;(with_reducible repeat (first|apply aA|apply aC|apply ay));refine bE ?_ zO.out _;(with_reducible repeat (first|apply aA|apply aC|apply ay));refine bE ?_ zO.out _;(with_reducible repeat (first|apply aA|apply aC|apply ay));refine bE ?_ zO.out _;(with_reducible repeat (first|apply aA|apply aC|apply ay));refine bE ?_ zM.out _;(with_reducible repeat (first|apply aA|apply aC|apply ay));refine bE ?_ zM.out _;(with_reducible repeat (first|apply aA|apply aC|apply ay));refine bE ?_ zM.out _;(with_reducible repeat (first|apply aA|apply aC|apply ay));refine bE ?_ zM.out _;(with_reducible repeat (first|apply aA|apply aC|apply ay));refine bE ?_ zM.out _;(with_reducible repeat (first|apply aA|apply aC|apply ay));refine bE ?_ zM.out _;(with_reducible repeat (first|apply aA|apply aC|apply ay));exact xV.out⟩
        have Af : Aside0 (((((((((((((Al.setCell ⟨xS,0,none⟩ (.int .i64 yN)).setCell ⟨xS,1,none⟩ (.bool yP)).setCell ⟨xS,2,none⟩ (.int .i64 yS)).setCell ⟨xS,3,none⟩ (.string yX)).setCell ⟨xS,4,none⟩ (.slice zm yT.length zn)).setCell ⟨xS,5,none⟩ (.slice zy yY.length zA)).setCell ⟨xU,0,none⟩ (.int .i64 yM)).setCell ⟨xU,1,none⟩ (.bool yO)).setCell ⟨xU,2,none⟩ (.int .i64 yQ)).setCell ⟨xU,3,none⟩ (.string yU)).setCell ⟨xU,4,none⟩ (.slice zo yR.length zq)).setCell ⟨xU,5,none⟩ (.slice zB yV.length zC)).heap[yg]? = some (.cells #[.int .i64 t233,.bool t234,.int .i64 yE,.string t236,.slice zw yJ.length zx,.slice zK yL.length zL] 33 (0,0))):=⟨by (with_reducible repeat (first|apply aA|apply aC|apply ay));refine bE ?_ zP.out _;(with_reducible repeat (first|apply aA|apply aC|apply ay));refine bE ?_ zP.out _;(with_reducible repeat (first|apply aA|apply aC|apply ay));refine bE ?_ zP.out _;(with_reducible repeat (first|apply aA|apply aC|apply ay));refine bE ?_ zP.out _;(with_reducible repeat (first|apply aA|apply aC|apply ay));refine bE ?_ zP.out _;(with_reducible repeat (first|apply aA|apply aC|apply ay));refine bE ?_ zP.out _;(with_reducible repeat (first|apply aA|apply aC|apply ay));refine bE ?_ zN.out _;(with_reducible repeat (first|apply aA|apply aC|apply ay));refine bE ?_ zN.out _;(with_reducible repeat (first|apply aA|apply aC|apply ay));refine bE ?_ zN.out _;(with_reducible repeat (first|apply aA|apply aC|apply ay));refine bE ?_ zN.out _;(with_reducible repeat (first|apply aA|apply aC|apply ay));refine bE ?_ zN.out _;(with_reducible repeat (first|apply aA|apply aC|apply ay));refine bE ?_ zN.out _;(with_reducible repeat (first|apply aA|apply aC|apply ay));exact xW.out⟩
        have yZ : Aside0 (((((((((((((Al.setCell ⟨xS,0,none⟩ (.int .i64 yN)).setCell ⟨xS,1,none⟩ (.bool yP)).setCell ⟨xS,2,none⟩ (.int .i64 yS)).setCell ⟨xS,3,none⟩ (.string yX)).setCell ⟨xS,4,none⟩ (.slice zm yT.length zn)).setCell ⟨xS,5,none⟩ (.slice zy yY.length zA)).setCell ⟨xU,0,none⟩ (.int .i64 yM)).setCell ⟨xU,1,none⟩ (.bool yO)).setCell ⟨xU,2,none⟩ (.int .i64 yQ)).setCell ⟨xU,3,none⟩ (.string yU)).setCell ⟨xU,4,none⟩ (.slice zo yR.length zq)).setCell ⟨xU,5,none⟩ (.slice zB yV.length zC)).heap[xS]? = some (.cells #[.int .i64 yN,.bool yP,.int .i64 yS,.string yX,.slice zm yT.length zn,.slice zy yY.length zA] 29 (0,0))):=⟨by (with_reducible repeat (first|apply aA|apply aC|apply ay));refine bE ?_ zQ.out _;(with_reducible repeat (first|apply aA|apply aC|apply ay));refine bE ?_ zQ.out _;(with_reducible repeat (first|apply aA|apply aC|apply ay));refine bE ?_ zQ.out _;(with_reducible repeat (first|apply aA|apply aC|apply ay));refine bE ?_ zQ.out _;(with_reducible repeat (first|apply aA|apply aC|apply ay));refine bE ?_ zQ.out _;(with_reducible repeat (first|apply aA|apply aC|apply ay));refine bE ?_ zQ.out _;(with_reducible repeat (first|apply aA|apply aC|apply ay));refine aR (cs:=#[.int .i64 yN,.bool yP,.int .i64 yS,.string yX,.slice zm yT.length zn,.slice none 0 0]) ?_ 5 _ rfl;(with_reducible repeat (first|apply aA|apply aC|apply ay));refine aR (cs:=#[.int .i64 yN,.bool yP,.int .i64 yS,.string yX,.slice none 0 0,.slice none 0 0]) ?_ 4 _ rfl;(with_reducible repeat (first|apply aA|apply aC|apply ay));refine aR (cs:=#[.int .i64 yN,.bool yP,.int .i64 yS,.string (⟨#[]⟩ : ByteArray),.slice none 0 0,.slice none 0 0]) ?_ 3 _ rfl;(with_reducible repeat (first|apply aA|apply aC|apply ay));refine aR (cs:=#[.int .i64 yN,.bool yP,.int .i64 0,.string (⟨#[]⟩ : ByteArray),.slice none 0 0,.slice none 0 0]) ?_ 2 _ rfl;(with_reducible repeat (first|apply aA|apply aC|apply ay));refine aR (cs:=#[.int .i64 yN,.bool false,.int .i64 0,.string (⟨#[]⟩ : ByteArray),.slice none 0 0,.slice none 0 0]) ?_ 1 _ rfl;(with_reducible repeat (first|apply aA|apply aC|apply ay));refine aR (cs:=#[.int .i64 0,.bool false,.int .i64 0,.string (⟨#[]⟩ : ByteArray),.slice none 0 0,.slice none 0 0]) ?_ 0 _ rfl;(with_reducible repeat (first|apply aA|apply aC|apply ay));exact xX.out⟩
        have zh : Aside0 (((((((((((((Al.setCell ⟨xS,0,none⟩ (.int .i64 yN)).setCell ⟨xS,1,none⟩ (.bool yP)).setCell ⟨xS,2,none⟩ (.int .i64 yS)).setCell ⟨xS,3,none⟩ (.string yX)).setCell ⟨xS,4,none⟩ (.slice zm yT.length zn)).setCell ⟨xS,5,none⟩ (.slice zy yY.length zA)).setCell ⟨xU,0,none⟩ (.int .i64 yM)).setCell ⟨xU,1,none⟩ (.bool yO)).setCell ⟨xU,2,none⟩ (.int .i64 yQ)).setCell ⟨xU,3,none⟩ (.string yU)).setCell ⟨xU,4,none⟩ (.slice zo yR.length zq)).setCell ⟨xU,5,none⟩ (.slice zB yV.length zC)).heap[xU]? = some (.cells #[.int .i64 yM,.bool yO,.int .i64 yQ,.string yU,.slice zo yR.length zq,.slice zB yV.length zC] 33 (0,0))):=⟨by (with_reducible repeat (first|apply aA|apply aC|apply ay));refine aR (cs:=#[.int .i64 yM,.bool yO,.int .i64 yQ,.string yU,.slice zo yR.length zq,.slice none 0 0]) ?_ 5 _ rfl;(with_reducible repeat (first|apply aA|apply aC|apply ay));refine aR (cs:=#[.int .i64 yM,.bool yO,.int .i64 yQ,.string yU,.slice none 0 0,.slice none 0 0]) ?_ 4 _ rfl;(with_reducible repeat (first|apply aA|apply aC|apply ay));refine aR (cs:=#[.int .i64 yM,.bool yO,.int .i64 yQ,.string (⟨#[]⟩ : ByteArray),.slice none 0 0,.slice none 0 0]) ?_ 3 _ rfl;(with_reducible repeat (first|apply aA|apply aC|apply ay));refine aR (cs:=#[.int .i64 yM,.bool yO,.int .i64 0,.string (⟨#[]⟩ : ByteArray),.slice none 0 0,.slice none 0 0]) ?_ 2 _ rfl;(with_reducible repeat (first|apply aA|apply aC|apply ay));refine aR (cs:=#[.int .i64 yM,.bool false,.int .i64 0,.string (⟨#[]⟩ : ByteArray),.slice none 0 0,.slice none 0 0]) ?_ 1 _ rfl;(with_reducible repeat (first|apply aA|apply aC|apply ay));refine aR (cs:=#[.int .i64 0,.bool false,.int .i64 0,.string (⟨#[]⟩ : ByteArray),.slice none 0 0,.slice none 0 0]) ?_ 0 _ rfl;(with_reducible repeat (first|apply aA|apply aC|apply ay));refine bE ?_ zR.out _;(with_reducible repeat (first|apply aA|apply aC|apply ay));refine bE ?_ zR.out _;(with_reducible repeat (first|apply aA|apply aC|apply ay));refine bE ?_ zR.out _;(with_reducible repeat (first|apply aA|apply aC|apply ay));refine bE ?_ zR.out _;(with_reducible repeat (first|apply aA|apply aC|apply ay));refine bE ?_ zR.out _;(with_reducible repeat (first|apply aA|apply aC|apply ay));refine bE ?_ zR.out _;(with_reducible repeat (first|apply aA|apply aC|apply ay));exact xZ.out⟩
        have zi : Aside0 (Below w.heap.size w ((((((((((((Al.setCell ⟨xS,0,none⟩ (.int .i64 yN)).setCell ⟨xS,1,none⟩ (.bool yP)).setCell ⟨xS,2,none⟩ (.int .i64 yS)).setCell ⟨xS,3,none⟩ (.string yX)).setCell ⟨xS,4,none⟩ (.slice zm yT.length zn)).setCell ⟨xS,5,none⟩ (.slice zy yY.length zA)).setCell ⟨xU,0,none⟩ (.int .i64 yM)).setCell ⟨xU,1,none⟩ (.bool yO)).setCell ⟨xU,2,none⟩ (.int .i64 yQ)).setCell ⟨xU,3,none⟩ (.string yU)).setCell ⟨xU,4,none⟩ (.slice zo yR.length zq)).setCell ⟨xU,5,none⟩ (.slice zB yV.length zC))):=⟨by repeat (first|(with_reducible first|exact HB.out|apply av|apply ak|apply au|refine aD ?_ za.out|refine aD ?_ zD.out|refine aD ?_ Ah.out|refine aD ?_ Ak.out)|exact HB.out)⟩
        (try clear yx)
        (try clear yA)
        (try clear yB)
        (try clear yC)
        (try clear yF)
        (try clear yG)
        (try clear yH)
        (try clear yI)
        (try clear xV)
        (try clear xW)
        (try clear xX)
        (try clear xZ)
        (try clear HB)
        generalize ((((((((((((Al.setCell ⟨xS,0,none⟩ (.int .i64 yN)).setCell ⟨xS,1,none⟩ (.bool yP)).setCell ⟨xS,2,none⟩ (.int .i64 yS)).setCell ⟨xS,3,none⟩ (.string yX)).setCell ⟨xS,4,none⟩ (.slice zm yT.length zn)).setCell ⟨xS,5,none⟩ (.slice zy yY.length zA)).setCell ⟨xU,0,none⟩ (.int .i64 yM)).setCell ⟨xU,1,none⟩ (.bool yO)).setCell ⟨xU,2,none⟩ (.int .i64 yQ)).setCell ⟨xU,3,none⟩ (.string yU)).setCell ⟨xU,4,none⟩ (.slice zo yR.length zq)).setCell ⟨xU,5,none⟩ (.slice zB yV.length zC)) = Eh at zJ zV zW zX zY zZ z8 Ac Ae Af yZ zh zi ⊢
        have yx:=zJ
        have yA:=zV
        have yB:=zW
        have yC:=zX
        have yF:=zY
        have yG:=zZ
        have yH:=z8
        have yI:=Ac
        have xV:=Ae
        have xW:=Af
        have xX:=yZ
        have xZ:=zh
        have HB:=zi
        clear zJ zV zW zX zY zZ z8 Ac Ae Af yZ zh zi
        have zJ:=Aside0.mk (Kd.bF yx.out)
        have zV:=Aside0.mk (Kd.bF yA.out)
        have zW:=Aside0.mk (Kd.bF yB.out)
        have zX:=Aside0.mk (Kd.bF yC.out)
        have zY:=Aside0.mk (Kd.bF yF.out)
        have zZ:=Aside0.mk (Kd.bF yG.out)
        have z8:=Aside0.mk (Kd.bF yH.out)
        have Ac:=Aside0.mk (Kd.bF yI.out)
        have Ae:=Aside0.mk (aC xV.out)
        have Af:=Aside0.mk (aC xW.out)
        have yZ:=Aside0.mk (aC xX.out)
        have zh:=Aside0.mk (aC xZ.out)
        have zi:=Aside0.mk (au HB.out)
        clear yx
        clear yA
        clear yB
        clear yC
        clear yF
        clear yG
        clear yH
        clear yI
        clear xV
        clear xW
        clear xX
        clear xZ
        clear HB
        have yx:=zJ
        have yA:=zV
        have yB:=zW
        have yC:=zX
        have yF:=zY
        have yG:=zZ
        have yH:=z8
        have yI:=Ac
        have xV:=Ae
        have xW:=Af
        have xX:=yZ
        have xZ:=zh
        have HB:=zi
        clear zJ zV zW zX zY zZ z8 Ac Ae Af yZ zh zi
        refine iM (n:=30) (S:=fun w'=>w'.cell? ⟨yc,0,none⟩ = some (.int .i64 yt) ∧ w'.cell? ⟨yc,1,none⟩ = some (.bool yu) ∧ w'.cell? ⟨yc,2,none⟩ = some (.int .i64 yw) ∧ w'.cell? ⟨yc,3,none⟩ = some (.string t226) ∧ w'.cell? ⟨yc,4,none⟩ = some (.slice ze t227.length zf) ∧ w'.cell? ⟨yc,5,none⟩ = some (.slice zH yD.length zI) ∧ w'.cell? ⟨yg,0,none⟩ = some (.int .i64 t233) ∧ w'.cell? ⟨yg,1,none⟩ = some (.bool t234) ∧ w'.cell? ⟨yg,2,none⟩ = some (.int .i64 yE) ∧ w'.cell? ⟨yg,3,none⟩ = some (.string t236) ∧ w'.cell? ⟨yg,4,none⟩ = some (.slice zw yJ.length zx) ∧ w'.cell? ⟨yg,5,none⟩ = some (.slice zK yL.length zL) ∧ w'.cell? ⟨xS,0,none⟩ = some (.int .i64 yN) ∧ w'.cell? ⟨xS,1,none⟩ = some (.bool yP) ∧ w'.cell? ⟨xS,2,none⟩ = some (.int .i64 yS) ∧ w'.cell? ⟨xS,3,none⟩ = some (.string yX) ∧ w'.cell? ⟨xS,4,none⟩ = some (.slice zm yT.length zn) ∧ w'.cell? ⟨xS,5,none⟩ = some (.slice zy yY.length zA) ∧ w'.cell? ⟨xU,0,none⟩ = some (.int .i64 yM) ∧ w'.cell? ⟨xU,1,none⟩ = some (.bool yO) ∧ w'.cell? ⟨xU,2,none⟩ = some (.int .i64 yQ) ∧ w'.cell? ⟨xU,3,none⟩ = some (.string yU) ∧ w'.cell? ⟨xU,4,none⟩ = some (.slice zo yR.length zq) ∧ w'.cell? ⟨xU,5,none⟩ = some (.slice zB yV.length zC)) (ds:=[]) #[false,false,false,false,false,false,false,false,false,false,false,false,false,false,false,false,false,false,false,false,false,false,false,false,false,false,false,false,false,false] (by kernel_rfl) rfl rfl ⟨(ah xV.out 0).trans rfl,(ah xV.out 1).trans rfl,(ah xV.out 2).trans rfl,(ah xV.out 3).trans rfl,(ah xV.out 4).trans rfl,(ah xV.out 5).trans rfl,(ah xW.out 0).trans rfl,(ah xW.out 1).trans rfl,(ah xW.out 2).trans rfl,(ah xW.out 3).trans rfl,(ah xW.out 4).trans rfl,(ah xW.out 5).trans rfl,(ah xX.out 0).trans rfl,(ah xX.out 1).trans rfl,(ah xX.out 2).trans rfl,(ah xX.out 3).trans rfl,(ah xX.out 4).trans rfl,(ah xX.out 5).trans rfl,(ah xZ.out 0).trans rfl,(ah xZ.out 1).trans rfl,(ah xZ.out 2).trans rfl,(ah xZ.out 3).trans rfl,(ah xZ.out 4).trans rfl,(ah xZ.out 5).trans rfl⟩ (fun hHeld=>?_);refine fT aY.xO aY.wW (fun HT_ HW_=>?_)
        generalize Eh.drew = Eo at yx yA yB yC yF yG yH yI xV xW xX xZ HB hHeld ⊢
        refine gL (i:=0) (N:=some 28) #[true,false,false,false,false,false,false,false,false,false,false,false,false,false,false,false,false,false,false,false,false,false,false,false,false,false,false,false,false,false] rfl rfl (dM HT_.out (by kernel_rfl)) (by decide) (fun K hK=>?_)
        refine iT Tryd.func9 (by kernel_rfl) rfl #[] (by rfl) rfl rfl (by (try simp only [List.map_toArray,List.map_cons,List.map_nil]);first|done|rfl|(simp only [List.length_drop,List.length_take];rfl)) ?_
        with_reducible refine (cO.calls zu  true _ DW.out (by first|assumption|exact GW.below hG (by first|exact HB.out|assumption|(repeat (first|(with_reducible first|exact HB.out|apply av|apply ak|apply au)|exact HB.out)))|exact GW.drawn hG (by first|assumption|(repeat (first|exact Drawn0.refl _|assumption|apply Drawn0.step))))).mono ?_
        rintro e Ep ⟨rfl,hb⟩
        refine ⟨_,rfl,?_⟩
        have zJ:=Aside0.mk (Kd.bq (by (with_reducible repeat (first|apply Kd.aZ|apply Kd.bf|apply Kd.bF));exact yx.out) hb)
        have zV:=Aside0.mk (Kd.bq (by (with_reducible repeat (first|apply Kd.aZ|apply Kd.bf|apply Kd.bF));exact yA.out) hb)
        have zW:=Aside0.mk (Kd.bq (by (with_reducible repeat (first|apply Kd.aZ|apply Kd.bf|apply Kd.bF));exact yB.out) hb)
        have zX:=Aside0.mk (Kd.bq (by (with_reducible repeat (first|apply Kd.aZ|apply Kd.bf|apply Kd.bF));exact yC.out) hb)
        have zY:=Aside0.mk (Kd.bq (by (with_reducible repeat (first|apply Kd.aZ|apply Kd.bf|apply Kd.bF));exact yF.out) hb)
        have zZ:=Aside0.mk (Kd.bq (by (with_reducible repeat (first|apply Kd.aZ|apply Kd.bf|apply Kd.bF));exact yG.out) hb)
        have z8:=Aside0.mk (Kd.bq (by (with_reducible repeat (first|apply Kd.aZ|apply Kd.bf|apply Kd.bF));exact yH.out) hb)
        have Ac:=Aside0.mk (Kd.bq (by (with_reducible repeat (first|apply Kd.aZ|apply Kd.bf|apply Kd.bF));exact yI.out) hb)
        have Ae:=Aside0.mk (aU (g:=yc) (o:=.cells #[.int .i64 yt,.bool yu,.int .i64 yw,.string t226,.slice ze t227.length zf,.slice zH yD.length zI] 29 (0,0)) (bk_ xV.out) hb)
        have Af:=Aside0.mk (aU (g:=yg) (o:=.cells #[.int .i64 t233,.bool t234,.int .i64 yE,.string t236,.slice zw yJ.length zx,.slice zK yL.length zL] 33 (0,0)) (bk_ xW.out) hb)
        have yZ:=Aside0.mk (aU (g:=xS) (o:=.cells #[.int .i64 yN,.bool yP,.int .i64 yS,.string yX,.slice zm yT.length zn,.slice zy yY.length zA] 29 (0,0)) (bk_ xX.out) hb)
        have zh:=Aside0.mk (aU (g:=xU) (o:=.cells #[.int .i64 yM,.bool yO,.int .i64 yQ,.string yU,.slice zo yR.length zq,.slice zB yV.length zC] 33 (0,0)) (bk_ xZ.out) hb)
        have zi:=Aside0.mk (aT (by repeat (first|(with_reducible first|exact HB.out|apply av|apply ak|apply au|refine aD ?_ za.out|refine aD ?_ zD.out|refine aD ?_ Ah.out|refine aD ?_ Ak.out)|exact HB.out)) hb)
        clear yx
        clear yA
        clear yB
        clear yC
        clear yF
        clear yG
        clear yH
        clear yI
        clear xV
        clear xW
        clear xX
        clear xZ
        clear HB
        have yx:=zJ
        have yA:=zV
        have yB:=zW
        have yC:=zX
        have yF:=zY
        have yG:=zZ
        have yH:=z8
        have yI:=Ac
        have xV:=Ae
        have xW:=Af
        have xX:=yZ
        have xZ:=zh
        have HB:=zi
        clear zJ zV zW zX zY zZ z8 Ac Ae Af yZ zh zi
        (try clear hb)
        (try clear hb2)
        (try clear hk)
        (try clear hi)
        refine hK.out _ _ ⟨(ah xV.out 0).trans rfl,(ah xV.out 1).trans rfl,(ah xV.out 2).trans rfl,(ah xV.out 3).trans rfl,(ah xV.out 4).trans rfl,(ah xV.out 5).trans rfl,(ah xW.out 0).trans rfl,(ah xW.out 1).trans rfl,(ah xW.out 2).trans rfl,(ah xW.out 3).trans rfl,(ah xW.out 4).trans rfl,(ah xW.out 5).trans rfl,(ah xX.out 0).trans rfl,(ah xX.out 1).trans rfl,(ah xX.out 2).trans rfl,(ah xX.out 3).trans rfl,(ah xX.out 4).trans rfl,(ah xX.out 5).trans rfl,(ah xZ.out 0).trans rfl,(ah xZ.out 1).trans rfl,(ah xZ.out 2).trans rfl,(ah xZ.out 3).trans rfl,(ah xZ.out 4).trans rfl,(ah xZ.out 5).trans rfl⟩ (fun hHeld=>?_)
        clear hK K
        refine dL (a':=?_) ?_ ?_
        rotate_left
        ·show Act.put _ (some 28) _ = _
         simp only [Act.put,List.setIfInBounds_toArray,List.set_cons_zero,List.set_cons_succ,bA,bB]
         rfl
        refine bR (i:=1) (N:=some 29) (v:=?_) (a':=?_) #[true,true,false,false,false,false,false,false,false,false,false,false,false,false,false,false,false,false,false,false,false,false,false,false,false,false,false,false,false,false] rfl rfl (bH HT_.out (by kernel_rfl)) (fun _ _ _ h=>h) (Or.inl ⟨by rfl,?_⟩) ?_ ?_
        rotate_left
        ·intro w'
         go_simp
         with_reducible rfl
        rotate_left
        ·simp only [Act.put,List.setIfInBounds_toArray,List.set_cons_zero,List.set_cons_succ,bA,bB]
         rfl
        refine dG (i:=2) (N:=some 30) (v:=?_) (a':=?_) #[true,true,true,false,false,false,false,false,false,false,false,false,false,false,false,false,false,false,false,false,false,false,false,false,false,false,false,false,false,false] rfl rfl (cu HT_.out HW_.out (by kernel_rfl)) (fun _ _ _ h=>h) (Or.inl ⟨by rfl,?_⟩) hHeld ?_ ?_
        rotate_left
        ·rintro w' ⟨s0,s1,s2,s3,s4,s5,s6,s7,s8,s9,s10,s11,s12,s13,Ba,s15,s16,Bb,Bc,Bd,s20,Bf,Bg,Bh⟩
         go_simp
         with_reducible rfl
        rotate_left
        ·simp only [Act.put,List.setIfInBounds_toArray,List.set_cons_zero,List.set_cons_succ,bA,bB]
         rfl
        refine dG (i:=4) (N:=some 32) (v:=?_) (a':=?_) #[true,true,true,false,true,false,false,false,false,false,false,false,false,false,false,false,false,false,false,false,false,false,false,false,false,false,false,false,false,false] rfl rfl (cu HT_.out HW_.out (by kernel_rfl)) (fun _ _ _ h=>h) (Or.inl ⟨by rfl,?_⟩) hHeld ?_ ?_
        rotate_left
        ·rintro w' ⟨s0,s1,s2,s3,s4,s5,s6,s7,s8,s9,s10,s11,s12,s13,Ba,s15,s16,Bb,Bc,Bd,s20,Bf,Bg,Bh⟩
         go_simp
         with_reducible rfl
        rotate_left
        ·simp only [Act.put,List.setIfInBounds_toArray,List.set_cons_zero,List.set_cons_succ,bA,bB]
         rfl
        refine gL (i:=3) (N:=some 31) #[true,true,true,true,true,false,false,false,false,false,false,false,false,false,false,false,false,false,false,false,false,false,false,false,false,false,false,false,false,false] rfl rfl (dM HT_.out (by kernel_rfl)) (by decide) (fun K hK=>?_)
        refine iT Tryd.func20 (by kernel_rfl) rfl #[.agg #[.int .i64 yt,.bool yu,.int .i64 yw,.string t226,.slice ze t227.length zf,.slice zH yD.length zI]] (by rfl) rfl rfl (by (try simp only [List.map_toArray,List.map_cons,List.map_nil]);first|done|rfl|(simp only [List.length_drop,List.length_take];rfl)) ?_
        with_reducible refine (bQ.calls zu yt yu yw t226 _ _ t227 _ _ yD Ag _ ?zk ?zl ?Ai ?Aj DX.out (by first|assumption|exact GW.below hG (by first|exact HB.out|assumption|(repeat (first|(with_reducible first|exact HB.out|apply av|apply ak|apply au)|exact HB.out)))|exact GW.drawn hG (by first|assumption|(repeat (first|exact Drawn0.refl _|assumption|apply Drawn0.step))))).mono ?_
        (case zk=>repeat (first|exact (Kd.bU yx.out).2.2|(with_reducible refine Kd.bJ ?_ _)|(with_reducible refine Kd.bL ?_ _)|(with_reducible refine Kd.bS ?_)))
        (case zl=>exact (Kd.bU yx.out).2.1)
        (case Ai=>repeat (first|exact (Kd.bU yA.out).2.2|(with_reducible refine Kd.bJ ?_ _)|(with_reducible refine Kd.bL ?_ _)|(with_reducible refine Kd.bS ?_)))
        (case Aj=>exact (Kd.bU yA.out).2.1)
        rintro e Er ⟨rfl,hb⟩
        refine ⟨_,rfl,?_⟩
        have zJ:=Aside0.mk (Kd.bq (by (with_reducible repeat (first|apply Kd.aZ|apply Kd.bf|apply Kd.bF));exact yx.out) hb)
        have zV:=Aside0.mk (Kd.bq (by (with_reducible repeat (first|apply Kd.aZ|apply Kd.bf|apply Kd.bF));exact yA.out) hb)
        have zW:=Aside0.mk (Kd.bq (by (with_reducible repeat (first|apply Kd.aZ|apply Kd.bf|apply Kd.bF));exact yB.out) hb)
        have zX:=Aside0.mk (Kd.bq (by (with_reducible repeat (first|apply Kd.aZ|apply Kd.bf|apply Kd.bF));exact yC.out) hb)
        have zY:=Aside0.mk (Kd.bq (by (with_reducible repeat (first|apply Kd.aZ|apply Kd.bf|apply Kd.bF));exact yF.out) hb)
        have zZ:=Aside0.mk (Kd.bq (by (with_reducible repeat (first|apply Kd.aZ|apply Kd.bf|apply Kd.bF));exact yG.out) hb)
        have z8:=Aside0.mk (Kd.bq (by (with_reducible repeat (first|apply Kd.aZ|apply Kd.bf|apply Kd.bF));exact yH.out) hb)
        have Ac:=Aside0.mk (Kd.bq (by (with_reducible repeat (first|apply Kd.aZ|apply Kd.bf|apply Kd.bF));exact yI.out) hb)
        have Ae:=Aside0.mk (aU (g:=yc) (o:=.cells #[.int .i64 yt,.bool yu,.int .i64 yw,.string t226,.slice ze t227.length zf,.slice zH yD.length zI] 29 (0,0)) (bk_ xV.out) hb)
        have Af:=Aside0.mk (aU (g:=yg) (o:=.cells #[.int .i64 t233,.bool t234,.int .i64 yE,.string t236,.slice zw yJ.length zx,.slice zK yL.length zL] 33 (0,0)) (bk_ xW.out) hb)
        have yZ:=Aside0.mk (aU (g:=xS) (o:=.cells #[.int .i64 yN,.bool yP,.int .i64 yS,.string yX,.slice zm yT.length zn,.slice zy yY.length zA] 29 (0,0)) (bk_ xX.out) hb)
        have zh:=Aside0.mk (aU (g:=xU) (o:=.cells #[.int .i64 yM,.bool yO,.int .i64 yQ,.string yU,.slice zo yR.length zq,.slice zB yV.length zC] 33 (0,0)) (bk_ xZ.out) hb)
        have zi:=Aside0.mk (aT (by repeat (first|(with_reducible first|exact HB.out|apply av|apply ak|apply au|refine aD ?_ za.out|refine aD ?_ zD.out|refine aD ?_ Ah.out|refine aD ?_ Ak.out)|exact HB.out)) hb)
        clear yx
        clear yA
        clear yB
        clear yC
        clear yF
        clear yG
        clear yH
        clear yI
        clear xV
        clear xW
        clear xX
        clear xZ
        clear HB
        have yx:=zJ
        have yA:=zV
        have yB:=zW
        have yC:=zX
        have yF:=zY
        have yG:=zZ
        have yH:=z8
        have yI:=Ac
        have xV:=Ae
        have xW:=Af
        have xX:=yZ
        have xZ:=zh
        have HB:=zi
        clear zJ zV zW zX zY zZ z8 Ac Ae Af yZ zh zi
        (try clear hb)
        (try clear hb2)
        (try clear hk)
        (try clear hi)
        refine hK.out _ _ ⟨(ah xV.out 0).trans rfl,(ah xV.out 1).trans rfl,(ah xV.out 2).trans rfl,(ah xV.out 3).trans rfl,(ah xV.out 4).trans rfl,(ah xV.out 5).trans rfl,(ah xW.out 0).trans rfl,(ah xW.out 1).trans rfl,(ah xW.out 2).trans rfl,(ah xW.out 3).trans rfl,(ah xW.out 4).trans rfl,(ah xW.out 5).trans rfl,(ah xX.out 0).trans rfl,(ah xX.out 1).trans rfl,(ah xX.out 2).trans rfl,(ah xX.out 3).trans rfl,(ah xX.out 4).trans rfl,(ah xX.out 5).trans rfl,(ah xZ.out 0).trans rfl,(ah xZ.out 1).trans rfl,(ah xZ.out 2).trans rfl,(ah xZ.out 3).trans rfl,(ah xZ.out 4).trans rfl,(ah xZ.out 5).trans rfl⟩ (fun hHeld=>?_)
        clear hK K
        refine dL (a':=?_) ?_ ?_
        rotate_left
        ·show Act.put _ (some 31) _ = _
         simp only [Act.put,List.setIfInBounds_toArray,List.set_cons_zero,List.set_cons_succ,bA,bB]
         rfl
        refine gL (i:=5) (N:=some 33) #[true,true,true,true,true,true,false,false,false,false,false,false,false,false,false,false,false,false,false,false,false,false,false,false,false,false,false,false,false,false] rfl rfl (dM HT_.out (by kernel_rfl)) (by decide) (fun K hK=>?_)
        refine iT Tryd.func21 (by kernel_rfl) rfl #[.agg #[.int .i64 t233,.bool t234,.int .i64 yE,.string t236,.slice zw yJ.length zx,.slice zK yL.length zL]] (by rfl) rfl rfl (by (try simp only [List.map_toArray,List.map_cons,List.map_nil]);first|done|rfl|(simp only [List.length_drop,List.length_take];rfl)) ?_
        with_reducible refine (cZ.calls zu t233 t234 yE t236 _ _ yJ _ _ yL Ad _ ?zk ?zl ?Ai ?Aj DY.out).mono ?_
        (case zk=>repeat (first|exact (Kd.bU yB.out).2.2|(with_reducible refine Kd.bJ ?_ _)|(with_reducible refine Kd.bL ?_ _)|(with_reducible refine Kd.bS ?_)))
        (case zl=>exact (Kd.bU yB.out).2.1)
        (case Ai=>repeat (first|exact (Kd.bU yC.out).2.2|(with_reducible refine Kd.bJ ?_ _)|(with_reducible refine Kd.bL ?_ _)|(with_reducible refine Kd.bS ?_)))
        (case Aj=>exact (Kd.bU yC.out).2.1)
        rintro e Es ⟨rfl,hb⟩
        refine ⟨_,rfl,?_⟩
        have zJ:=Aside0.mk (Kd.bq (by (with_reducible repeat (first|apply Kd.aZ|apply Kd.bf|apply Kd.bF));exact yx.out) hb)
        have zV:=Aside0.mk (Kd.bq (by (with_reducible repeat (first|apply Kd.aZ|apply Kd.bf|apply Kd.bF));exact yA.out) hb)
        have zW:=Aside0.mk (Kd.bq (by (with_reducible repeat (first|apply Kd.aZ|apply Kd.bf|apply Kd.bF));exact yB.out) hb)
        have zX:=Aside0.mk (Kd.bq (by (with_reducible repeat (first|apply Kd.aZ|apply Kd.bf|apply Kd.bF));exact yC.out) hb)
        have zY:=Aside0.mk (Kd.bq (by (with_reducible repeat (first|apply Kd.aZ|apply Kd.bf|apply Kd.bF));exact yF.out) hb)
        have zZ:=Aside0.mk (Kd.bq (by (with_reducible repeat (first|apply Kd.aZ|apply Kd.bf|apply Kd.bF));exact yG.out) hb)
        have z8:=Aside0.mk (Kd.bq (by (with_reducible repeat (first|apply Kd.aZ|apply Kd.bf|apply Kd.bF));exact yH.out) hb)
        have Ac:=Aside0.mk (Kd.bq (by (with_reducible repeat (first|apply Kd.aZ|apply Kd.bf|apply Kd.bF));exact yI.out) hb)
        have Ae:=Aside0.mk (aU (g:=yc) (o:=.cells #[.int .i64 yt,.bool yu,.int .i64 yw,.string t226,.slice ze t227.length zf,.slice zH yD.length zI] 29 (0,0)) (bk_ xV.out) hb)
        have Af:=Aside0.mk (aU (g:=yg) (o:=.cells #[.int .i64 t233,.bool t234,.int .i64 yE,.string t236,.slice zw yJ.length zx,.slice zK yL.length zL] 33 (0,0)) (bk_ xW.out) hb)
        have yZ:=Aside0.mk (aU (g:=xS) (o:=.cells #[.int .i64 yN,.bool yP,.int .i64 yS,.string yX,.slice zm yT.length zn,.slice zy yY.length zA] 29 (0,0)) (bk_ xX.out) hb)
        have zh:=Aside0.mk (aU (g:=xU) (o:=.cells #[.int .i64 yM,.bool yO,.int .i64 yQ,.string yU,.slice zo yR.length zq,.slice zB yV.length zC] 33 (0,0)) (bk_ xZ.out) hb)
        have zi:=Aside0.mk (aT (by repeat (first|(with_reducible first|exact HB.out|apply av|apply ak|apply au|refine aD ?_ za.out|refine aD ?_ zD.out|refine aD ?_ Ah.out|refine aD ?_ Ak.out)|exact HB.out)) hb)
        clear yx
        clear yA
        clear yB
        clear yC
        clear yF
        clear yG
        clear yH
        clear yI
        clear xV
        clear xW
        clear xX
        clear xZ
        clear HB
        have yx:=zJ
        have yA:=zV
        have yB:=zW
        have yC:=zX
        have yF:=zY
        have yG:=zZ
        have yH:=z8
        have yI:=Ac
        have xV:=Ae
        have xW:=Af
        have xX:=yZ
        have xZ:=zh
        have HB:=zi
        clear zJ zV zW zX zY zZ z8 Ac Ae Af yZ zh zi
        (try clear hb)
        (try clear hb2)
        (try clear hk)
        (try clear hi)
        refine hK.out _ _ ⟨(ah xV.out 0).trans rfl,(ah xV.out 1).trans rfl,(ah xV.out 2).trans rfl,(ah xV.out 3).trans rfl,(ah xV.out 4).trans rfl,(ah xV.out 5).trans rfl,(ah xW.out 0).trans rfl,(ah xW.out 1).trans rfl,(ah xW.out 2).trans rfl,(ah xW.out 3).trans rfl,(ah xW.out 4).trans rfl,(ah xW.out 5).trans rfl,(ah xX.out 0).trans rfl,(ah xX.out 1).trans rfl,(ah xX.out 2).trans rfl,(ah xX.out 3).trans rfl,(ah xX.out 4).trans rfl,(ah xX.out 5).trans rfl,(ah xZ.out 0).trans rfl,(ah xZ.out 1).trans rfl,(ah xZ.out 2).trans rfl,(ah xZ.out 3).trans rfl,(ah xZ.out 4).trans rfl,(ah xZ.out 5).trans rfl⟩ (fun hHeld=>?_)
        clear hK K
        refine dL (a':=?_) ?_ ?_
        rotate_left
        ·show Act.put _ (some 33) _ = _
         simp only [Act.put,List.setIfInBounds_toArray,List.set_cons_zero,List.set_cons_succ,bA,bB]
         rfl
        refine bR (i:=6) (N:=some 34) (v:=?_) (a':=?_) #[true,true,true,true,true,true,true,false,false,false,false,false,false,false,false,false,false,false,false,false,false,false,false,false,false,false,false,false,false,false] rfl rfl (bH HT_.out (by kernel_rfl)) (fun _ _ _ h=>h) (Or.inl ⟨by rfl,?_⟩) ?_ ?_
        rotate_left
        ·intro w'
         go_simp
         with_reducible rfl
        rotate_left
        ·simp only [Act.put,List.setIfInBounds_toArray,List.set_cons_zero,List.set_cons_succ,bA,bB]
         rfl
        refine bR (i:=7) (N:=some 35) (v:=?_) (a':=?_) #[true,true,true,true,true,true,true,true,false,false,false,false,false,false,false,false,false,false,false,false,false,false,false,false,false,false,false,false,false,false] rfl rfl (bH HT_.out (by kernel_rfl)) (fun _ _ _ h=>h) (Or.inl ⟨by rfl,?_⟩) ?_ ?_
        rotate_left
        ·intro w'
         go_simp
         with_reducible rfl
        rotate_left
        ·simp only [Act.put,List.setIfInBounds_toArray,List.set_cons_zero,List.set_cons_succ,bA,bB]
         rfl
        refine bR (i:=8) (N:=some 36) (v:=?_) (a':=?_) #[true,true,true,true,true,true,true,true,true,false,false,false,false,false,false,false,false,false,false,false,false,false,false,false,false,false,false,false,false,false] rfl rfl (bH HT_.out (by kernel_rfl)) (fun _ _ _ h=>h) (Or.inl ⟨by rfl,?_⟩) ?_ ?_
        rotate_left
        ·intro w'
         go_simp
         with_reducible rfl
        rotate_left
        ·simp only [Act.put,List.setIfInBounds_toArray,List.set_cons_zero,List.set_cons_succ,bA,bB]
         rfl
        refine dG (i:=9) (N:=some 37) (v:=?_) (a':=?_) #[true,true,true,true,true,true,true,true,true,true,false,false,false,false,false,false,false,false,false,false,false,false,false,false,false,false,false,false,false,false] rfl rfl (cu HT_.out HW_.out (by kernel_rfl)) (fun _ _ _ h=>h) (Or.inl ⟨by rfl,?_⟩) hHeld ?_ ?_
        rotate_left
        ·rintro w' ⟨s0,s1,s2,s3,s4,s5,s6,s7,s8,s9,s10,s11,s12,s13,Ba,s15,s16,Bb,Bc,Bd,s20,Bf,Bg,Bh⟩
         go_simp
         with_reducible rfl
        rotate_left
        ·simp only [Act.put,List.setIfInBounds_toArray,List.set_cons_zero,List.set_cons_succ,bA,bB]
         rfl
        refine dG (i:=11) (N:=some 39) (v:=?_) (a':=?_) #[true,true,true,true,true,true,true,true,true,true,false,true,false,false,false,false,false,false,false,false,false,false,false,false,false,false,false,false,false,false] rfl rfl (cu HT_.out HW_.out (by kernel_rfl)) (fun _ _ _ h=>h) (Or.inl ⟨by rfl,?_⟩) hHeld ?_ ?_
        rotate_left
        ·rintro w' ⟨s0,s1,s2,s3,s4,s5,s6,s7,s8,s9,s10,s11,s12,s13,Ba,s15,s16,Bb,Bc,Bd,s20,Bf,Bg,Bh⟩
         go_simp
         with_reducible rfl
        rotate_left
        ·simp only [Act.put,List.setIfInBounds_toArray,List.set_cons_zero,List.set_cons_succ,bA,bB]
         rfl
        refine gL (i:=10) (N:=some 38) #[true,true,true,true,true,true,true,true,true,true,true,true,false,false,false,false,false,false,false,false,false,false,false,false,false,false,false,false,false,false] rfl rfl (dM HT_.out (by kernel_rfl)) (by decide) (fun K hK=>?_)
        refine iT Tryd.func22 (by kernel_rfl) rfl #[.agg #[.int .i64 yt,.bool yu,.int .i64 yw,.string t226,.slice ze t227.length zf,.slice zH yD.length zI]] (by rfl) rfl rfl (by (try simp only [List.map_toArray,List.map_cons,List.map_nil]);first|done|rfl|(simp only [List.length_drop,List.length_take];rfl)) ?_
        with_reducible refine (aN.calls zu yt yu yw t226 _ _ t227 _ _ yD zU _ ?zk ?zl ?Ai ?Aj DZ.out).mono ?_
        (case zk=>repeat (first|exact (Kd.bU yx.out).2.2|(with_reducible refine Kd.bJ ?_ _)|(with_reducible refine Kd.bL ?_ _)|(with_reducible refine Kd.bS ?_)))
        (case zl=>exact (Kd.bU yx.out).2.1)
        (case Ai=>repeat (first|exact (Kd.bU yA.out).2.2|(with_reducible refine Kd.bJ ?_ _)|(with_reducible refine Kd.bL ?_ _)|(with_reducible refine Kd.bS ?_)))
        (case Aj=>exact (Kd.bU yA.out).2.1)
        rintro e Et ⟨rfl,hb⟩
        refine ⟨_,rfl,?_⟩
        have zJ:=Aside0.mk (Kd.bq (by (with_reducible repeat (first|apply Kd.aZ|apply Kd.bf|apply Kd.bF));exact yx.out) hb)
        have zV:=Aside0.mk (Kd.bq (by (with_reducible repeat (first|apply Kd.aZ|apply Kd.bf|apply Kd.bF));exact yA.out) hb)
        have zW:=Aside0.mk (Kd.bq (by (with_reducible repeat (first|apply Kd.aZ|apply Kd.bf|apply Kd.bF));exact yB.out) hb)
        have zX:=Aside0.mk (Kd.bq (by (with_reducible repeat (first|apply Kd.aZ|apply Kd.bf|apply Kd.bF));exact yC.out) hb)
        have zY:=Aside0.mk (Kd.bq (by (with_reducible repeat (first|apply Kd.aZ|apply Kd.bf|apply Kd.bF));exact yF.out) hb)
        have zZ:=Aside0.mk (Kd.bq (by (with_reducible repeat (first|apply Kd.aZ|apply Kd.bf|apply Kd.bF));exact yG.out) hb)
        have z8:=Aside0.mk (Kd.bq (by (with_reducible repeat (first|apply Kd.aZ|apply Kd.bf|apply Kd.bF));exact yH.out) hb)
        have Ac:=Aside0.mk (Kd.bq (by (with_reducible repeat (first|apply Kd.aZ|apply Kd.bf|apply Kd.bF));exact yI.out) hb)
        have Ae:=Aside0.mk (aU (g:=yc) (o:=.cells #[.int .i64 yt,.bool yu,.int .i64 yw,.string t226,.slice ze t227.length zf,.slice zH yD.length zI] 29 (0,0)) (bk_ xV.out) hb)
        have Af:=Aside0.mk (aU (g:=yg) (o:=.cells #[.int .i64 t233,.bool t234,.int .i64 yE,.string t236,.slice zw yJ.length zx,.slice zK yL.length zL] 33 (0,0)) (bk_ xW.out) hb)
        have yZ:=Aside0.mk (aU (g:=xS) (o:=.cells #[.int .i64 yN,.bool yP,.int .i64 yS,.string yX,.slice zm yT.length zn,.slice zy yY.length zA] 29 (0,0)) (bk_ xX.out) hb)
        have zh:=Aside0.mk (aU (g:=xU) (o:=.cells #[.int .i64 yM,.bool yO,.int .i64 yQ,.string yU,.slice zo yR.length zq,.slice zB yV.length zC] 33 (0,0)) (bk_ xZ.out) hb)
        have zi:=Aside0.mk (aT (by repeat (first|(with_reducible first|exact HB.out|apply av|apply ak|apply au|refine aD ?_ za.out|refine aD ?_ zD.out|refine aD ?_ Ah.out|refine aD ?_ Ak.out)|exact HB.out)) hb)
        clear yx
        clear yA
        clear yB
        clear yC
        clear yF
        clear yG
        clear yH
        clear yI
        clear xV
        clear xW
        clear xX
        clear xZ
        clear HB
        have yx:=zJ
        have yA:=zV
        have yB:=zW
        have yC:=zX
        have yF:=zY
        have yG:=zZ
        have yH:=z8
        have yI:=Ac
        have xV:=Ae
        have xW:=Af
        have xX:=yZ
        have xZ:=zh
        have HB:=zi
        clear zJ zV zW zX zY zZ z8 Ac Ae Af yZ zh zi
        (try clear hb)
        (try clear hb2)
        (try clear hk)
        (try clear hi)
        refine hK.out _ _ ⟨(ah xV.out 0).trans rfl,(ah xV.out 1).trans rfl,(ah xV.out 2).trans rfl,(ah xV.out 3).trans rfl,(ah xV.out 4).trans rfl,(ah xV.out 5).trans rfl,(ah xW.out 0).trans rfl,(ah xW.out 1).trans rfl,(ah xW.out 2).trans rfl,(ah xW.out 3).trans rfl,(ah xW.out 4).trans rfl,(ah xW.out 5).trans rfl,(ah xX.out 0).trans rfl,(ah xX.out 1).trans rfl,(ah xX.out 2).trans rfl,(ah xX.out 3).trans rfl,(ah xX.out 4).trans rfl,(ah xX.out 5).trans rfl,(ah xZ.out 0).trans rfl,(ah xZ.out 1).trans rfl,(ah xZ.out 2).trans rfl,(ah xZ.out 3).trans rfl,(ah xZ.out 4).trans rfl,(ah xZ.out 5).trans rfl⟩ (fun hHeld=>?_)
        clear hK K
        refine dL (a':=?_) ?_ ?_
        rotate_left
        ·show Act.put _ (some 38) _ = _
         simp only [Act.put,List.setIfInBounds_toArray,List.set_cons_zero,List.set_cons_succ,bA,bB]
         rfl
        refine gL (i:=12) (N:=some 40) #[true,true,true,true,true,true,true,true,true,true,true,true,true,false,false,false,false,false,false,false,false,false,false,false,false,false,false,false,false,false] rfl rfl (dM HT_.out (by kernel_rfl)) (by decide) (fun K hK=>?_)
        refine iT Tryd.func23 (by kernel_rfl) rfl #[.agg #[.int .i64 t233,.bool t234,.int .i64 yE,.string t236,.slice zw yJ.length zx,.slice zK yL.length zL]] (by rfl) rfl rfl (by (try simp only [List.map_toArray,List.map_cons,List.map_nil]);first|done|rfl|(simp only [List.length_drop,List.length_take];rfl)) ?_
        with_reducible refine (aV.calls zu t233 t234 yE t236 _ _ yJ _ _ yL zT _ ?zk ?zl ?Ai ?Aj D5.out).mono ?_
        (case zk=>repeat (first|exact (Kd.bU yB.out).2.2|(with_reducible refine Kd.bJ ?_ _)|(with_reducible refine Kd.bL ?_ _)|(with_reducible refine Kd.bS ?_)))
        (case zl=>exact (Kd.bU yB.out).2.1)
        (case Ai=>repeat (first|exact (Kd.bU yC.out).2.2|(with_reducible refine Kd.bJ ?_ _)|(with_reducible refine Kd.bL ?_ _)|(with_reducible refine Kd.bS ?_)))
        (case Aj=>exact (Kd.bU yC.out).2.1)
        rintro e Eu ⟨rfl,hb⟩
        refine ⟨_,rfl,?_⟩
        have zJ:=Aside0.mk (Kd.bq (by (with_reducible repeat (first|apply Kd.aZ|apply Kd.bf|apply Kd.bF));exact yx.out) hb)
        have zV:=Aside0.mk (Kd.bq (by (with_reducible repeat (first|apply Kd.aZ|apply Kd.bf|apply Kd.bF));exact yA.out) hb)
        have zW:=Aside0.mk (Kd.bq (by (with_reducible repeat (first|apply Kd.aZ|apply Kd.bf|apply Kd.bF));exact yB.out) hb)
        have zX:=Aside0.mk (Kd.bq (by (with_reducible repeat (first|apply Kd.aZ|apply Kd.bf|apply Kd.bF));exact yC.out) hb)
        have zY:=Aside0.mk (Kd.bq (by (with_reducible repeat (first|apply Kd.aZ|apply Kd.bf|apply Kd.bF));exact yF.out) hb)
        have zZ:=Aside0.mk (Kd.bq (by (with_reducible repeat (first|apply Kd.aZ|apply Kd.bf|apply Kd.bF));exact yG.out) hb)
        have z8:=Aside0.mk (Kd.bq (by (with_reducible repeat (first|apply Kd.aZ|apply Kd.bf|apply Kd.bF));exact yH.out) hb)
        have Ac:=Aside0.mk (Kd.bq (by (with_reducible repeat (first|apply Kd.aZ|apply Kd.bf|apply Kd.bF));exact yI.out) hb)
        have Ae:=Aside0.mk (aU (g:=yc) (o:=.cells #[.int .i64 yt,.bool yu,.int .i64 yw,.string t226,.slice ze t227.length zf,.slice zH yD.length zI] 29 (0,0)) (bk_ xV.out) hb)
        have Af:=Aside0.mk (aU (g:=yg) (o:=.cells #[.int .i64 t233,.bool t234,.int .i64 yE,.string t236,.slice zw yJ.length zx,.slice zK yL.length zL] 33 (0,0)) (bk_ xW.out) hb)
        have yZ:=Aside0.mk (aU (g:=xS) (o:=.cells #[.int .i64 yN,.bool yP,.int .i64 yS,.string yX,.slice zm yT.length zn,.slice zy yY.length zA] 29 (0,0)) (bk_ xX.out) hb)
        have zh:=Aside0.mk (aU (g:=xU) (o:=.cells #[.int .i64 yM,.bool yO,.int .i64 yQ,.string yU,.slice zo yR.length zq,.slice zB yV.length zC] 33 (0,0)) (bk_ xZ.out) hb)
        have zi:=Aside0.mk (aT (by repeat (first|(with_reducible first|exact HB.out|apply av|apply ak|apply au|refine aD ?_ za.out|refine aD ?_ zD.out|refine aD ?_ Ah.out|refine aD ?_ Ak.out)|exact HB.out)) hb)
        clear yx
        clear yA
        clear yB
        clear yC
        clear yF
        clear yG
        clear yH
        clear yI
        clear xV
        clear xW
        clear xX
        clear xZ
        clear HB
        have yx:=zJ
        have yA:=zV
        have yB:=zW
        have yC:=zX
        have yF:=zY
        have yG:=zZ
        have yH:=z8
        have yI:=Ac
        have xV:=Ae
        have xW:=Af
        have xX:=yZ
        have xZ:=zh
        have HB:=zi
        clear zJ zV zW zX zY zZ z8 Ac Ae Af yZ zh zi
        (try clear hb)
        (try clear hb2)
        (try clear hk)
        (try clear hi)
        refine hK.out _ _ ⟨(ah xV.out 0).trans rfl,(ah xV.out 1).trans rfl,(ah xV.out 2).trans rfl,(ah xV.out 3).trans rfl,(ah xV.out 4).trans rfl,(ah xV.out 5).trans rfl,(ah xW.out 0).trans rfl,(ah xW.out 1).trans rfl,(ah xW.out 2).trans rfl,(ah xW.out 3).trans rfl,(ah xW.out 4).trans rfl,(ah xW.out 5).trans rfl,(ah xX.out 0).trans rfl,(ah xX.out 1).trans rfl,(ah xX.out 2).trans rfl,(ah xX.out 3).trans rfl,(ah xX.out 4).trans rfl,(ah xX.out 5).trans rfl,(ah xZ.out 0).trans rfl,(ah xZ.out 1).trans rfl,(ah xZ.out 2).trans rfl,(ah xZ.out 3).trans rfl,(ah xZ.out 4).trans rfl,(ah xZ.out 5).trans rfl⟩ (fun hHeld=>?_)
        clear hK K
        refine dL (a':=?_) ?_ ?_
        rotate_left
        ·show Act.put _ (some 40) _ = _
         simp only [Act.put,List.setIfInBounds_toArray,List.set_cons_zero,List.set_cons_succ,bA,bB]
         rfl
        refine bR (i:=13) (N:=some 41) (v:=?_) (a':=?_) #[true,true,true,true,true,true,true,true,true,true,true,true,true,true,false,false,false,false,false,false,false,false,false,false,false,false,false,false,false,false] rfl rfl (bH HT_.out (by kernel_rfl)) (fun _ _ _ h=>h) (Or.inl ⟨by rfl,?_⟩) ?_ ?_
        rotate_left
        ·intro w'
         go_simp
         with_reducible rfl
        rotate_left
        ·simp only [Act.put,List.setIfInBounds_toArray,List.set_cons_zero,List.set_cons_succ,bA,bB]
         rfl
        refine bR (i:=14) (N:=some 42) (v:=?_) (a':=?_) #[true,true,true,true,true,true,true,true,true,true,true,true,true,true,true,false,false,false,false,false,false,false,false,false,false,false,false,false,false,false] rfl rfl (bH HT_.out (by kernel_rfl)) (fun _ _ _ h=>h) (Or.inl ⟨by rfl,?_⟩) ?_ ?_
        rotate_left
        ·intro w'
         go_simp
         with_reducible rfl
        rotate_left
        ·simp only [Act.put,List.setIfInBounds_toArray,List.set_cons_zero,List.set_cons_succ,bA,bB]
         rfl
        refine bR (i:=15) (N:=some 43) (v:=?_) (a':=?_) #[true,true,true,true,true,true,true,true,true,true,true,true,true,true,true,true,false,false,false,false,false,false,false,false,false,false,false,false,false,false] rfl rfl (bH HT_.out (by kernel_rfl)) (fun _ _ _ h=>h) (Or.inl ⟨by rfl,?_⟩) ?_ ?_
        rotate_left
        ·intro w'
         go_simp
         with_reducible rfl
        rotate_left
        ·simp only [Act.put,List.setIfInBounds_toArray,List.set_cons_zero,List.set_cons_succ,bA,bB]
         rfl
        refine dG (i:=16) (N:=some 44) (v:=?_) (a':=?_) #[true,true,true,true,true,true,true,true,true,true,true,true,true,true,true,true,true,false,false,false,false,false,false,false,false,false,false,false,false,false] rfl rfl (cu HT_.out HW_.out (by kernel_rfl)) (fun _ _ _ h=>h) (Or.inl ⟨by rfl,?_⟩) hHeld ?_ ?_
        rotate_left
        ·rintro w' ⟨s0,s1,s2,s3,s4,s5,s6,s7,s8,s9,s10,s11,s12,s13,Ba,s15,s16,Bb,Bc,Bd,s20,Bf,Bg,Bh⟩
         go_simp
         with_reducible rfl
        rotate_left
        ·simp only [Act.put,List.setIfInBounds_toArray,List.set_cons_zero,List.set_cons_succ,bA,bB]
         rfl
        refine dG (i:=17) (N:=some 45) (v:=?_) (a':=?_) #[true,true,true,true,true,true,true,true,true,true,true,true,true,true,true,true,true,true,false,false,false,false,false,false,false,false,false,false,false,false] rfl rfl (cu HT_.out HW_.out (by kernel_rfl)) (fun _ _ _ h=>h) (Or.inl ⟨by rfl,?_⟩) hHeld ?_ ?_
        rotate_left
        ·rintro w' ⟨s0,s1,s2,s3,s4,s5,s6,s7,s8,s9,s10,s11,s12,s13,Ba,s15,s16,Bb,Bc,Bd,s20,Bf,Bg,Bh⟩
         go_simp
         with_reducible rfl
        rotate_left
        ·simp only [Act.put,List.setIfInBounds_toArray,List.set_cons_zero,List.set_cons_succ,bA,bB]
         rfl
        refine dG (i:=19) (N:=some 47) (v:=?_) (a':=?_) #[true,true,true,true,true,true,true,true,true,true,true,true,true,true,true,true,true,true,false,true,false,false,false,false,false,false,false,false,false,false] rfl rfl (cu HT_.out HW_.out (by kernel_rfl)) (fun _ _ _ h=>h) (Or.inl ⟨by rfl,?_⟩) hHeld ?_ ?_
        rotate_left
        ·rintro w' ⟨s0,s1,s2,s3,s4,s5,s6,s7,s8,s9,s10,s11,s12,s13,Ba,s15,s16,Bb,Bc,Bd,s20,Bf,Bg,Bh⟩
         go_simp
         with_reducible rfl
        rotate_left
        ·simp only [Act.put,List.setIfInBounds_toArray,List.set_cons_zero,List.set_cons_succ,bA,bB]
         rfl
        refine dG (i:=20) (N:=some 48) (v:=?_) (a':=?_) #[true,true,true,true,true,true,true,true,true,true,true,true,true,true,true,true,true,true,false,true,true,false,false,false,false,false,false,false,false,false] rfl rfl (cu HT_.out HW_.out (by kernel_rfl)) (fun _ _ _ h=>h) (Or.inl ⟨by rfl,?_⟩) hHeld ?_ ?_
        rotate_left
        ·rintro w' ⟨s0,s1,s2,s3,s4,s5,s6,s7,s8,s9,s10,s11,s12,s13,Ba,s15,s16,Bb,Bc,Bd,s20,Bf,Bg,Bh⟩
         go_simp
         with_reducible rfl
        rotate_left
        ·simp only [Act.put,List.setIfInBounds_toArray,List.set_cons_zero,List.set_cons_succ,bA,bB]
         rfl
        refine gL (i:=18) (N:=some 46) #[true,true,true,true,true,true,true,true,true,true,true,true,true,true,true,true,true,true,true,true,true,false,false,false,false,false,false,false,false,false] rfl rfl (dM HT_.out (by kernel_rfl)) (by decide) (fun K hK=>?_)
        refine iT Tryd.func24 (by kernel_rfl) rfl #[.agg #[.int .i64 yt,.bool yu,.int .i64 yw,.string t226,.slice ze t227.length zf,.slice zH yD.length zI],.agg #[.int .i64 yN,.bool yP,.int .i64 yS,.string yX,.slice zm yT.length zn,.slice zy yY.length zA]] (by rfl) rfl rfl (by (try simp only [List.map_toArray,List.map_cons,List.map_nil]);first|done|rfl|(simp only [List.length_drop,List.length_take];rfl)) ?_
        with_reducible refine (bI.calls zu yt yu yw t226 _ _ t227 _ _ yD yN yP yS yX _ _ yT _ _ yY zG _ ?zk ?zl ?Ai ?Aj ?Ap ?Aq ?Ar ?Au D6.out).mono ?_
        (case zk=>repeat (first|exact (Kd.bU yx.out).2.2|(with_reducible refine Kd.bJ ?_ _)|(with_reducible refine Kd.bL ?_ _)|(with_reducible refine Kd.bS ?_)))
        (case zl=>exact (Kd.bU yx.out).2.1)
        (case Ai=>repeat (first|exact (Kd.bU yA.out).2.2|(with_reducible refine Kd.bJ ?_ _)|(with_reducible refine Kd.bL ?_ _)|(with_reducible refine Kd.bS ?_)))
        (case Aj=>exact (Kd.bU yA.out).2.1)
        (case Ap=>repeat (first|exact (Kd.bU yF.out).2.2|(with_reducible refine Kd.bJ ?_ _)|(with_reducible refine Kd.bL ?_ _)|(with_reducible refine Kd.bS ?_)))
        (case Aq=>exact (Kd.bU yF.out).2.1)
        (case Ar=>repeat (first|exact (Kd.bU yG.out).2.2|(with_reducible refine Kd.bJ ?_ _)|(with_reducible refine Kd.bL ?_ _)|(with_reducible refine Kd.bS ?_)))
        (case Au=>exact (Kd.bU yG.out).2.1)
        rintro e Ew ⟨rfl,hb⟩
        refine ⟨_,rfl,?_⟩
        have zJ:=Aside0.mk (Kd.bq (by (with_reducible repeat (first|apply Kd.aZ|apply Kd.bf|apply Kd.bF));exact yx.out) hb)
        have zV:=Aside0.mk (Kd.bq (by (with_reducible repeat (first|apply Kd.aZ|apply Kd.bf|apply Kd.bF));exact yA.out) hb)
        have zW:=Aside0.mk (Kd.bq (by (with_reducible repeat (first|apply Kd.aZ|apply Kd.bf|apply Kd.bF));exact yB.out) hb)
        have zX:=Aside0.mk (Kd.bq (by (with_reducible repeat (first|apply Kd.aZ|apply Kd.bf|apply Kd.bF));exact yC.out) hb)
        have zY:=Aside0.mk (Kd.bq (by (with_reducible repeat (first|apply Kd.aZ|apply Kd.bf|apply Kd.bF));exact yF.out) hb)
        have zZ:=Aside0.mk (Kd.bq (by (with_reducible repeat (first|apply Kd.aZ|apply Kd.bf|apply Kd.bF));exact yG.out) hb)
        have z8:=Aside0.mk (Kd.bq (by (with_reducible repeat (first|apply Kd.aZ|apply Kd.bf|apply Kd.bF));exact yH.out) hb)
        have Ac:=Aside0.mk (Kd.bq (by (with_reducible repeat (first|apply Kd.aZ|apply Kd.bf|apply Kd.bF));exact yI.out) hb)
        have Ae:=Aside0.mk (aU (g:=yc) (o:=.cells #[.int .i64 yt,.bool yu,.int .i64 yw,.string t226,.slice ze t227.length zf,.slice zH yD.length zI] 29 (0,0)) (bk_ xV.out) hb)
        have Af:=Aside0.mk (aU (g:=yg) (o:=.cells #[.int .i64 t233,.bool t234,.int .i64 yE,.string t236,.slice zw yJ.length zx,.slice zK yL.length zL] 33 (0,0)) (bk_ xW.out) hb)
        have yZ:=Aside0.mk (aU (g:=xS) (o:=.cells #[.int .i64 yN,.bool yP,.int .i64 yS,.string yX,.slice zm yT.length zn,.slice zy yY.length zA] 29 (0,0)) (bk_ xX.out) hb)
        have zh:=Aside0.mk (aU (g:=xU) (o:=.cells #[.int .i64 yM,.bool yO,.int .i64 yQ,.string yU,.slice zo yR.length zq,.slice zB yV.length zC] 33 (0,0)) (bk_ xZ.out) hb)
        have zi:=Aside0.mk (aT (by repeat (first|(with_reducible first|exact HB.out|apply av|apply ak|apply au|refine aD ?_ za.out|refine aD ?_ zD.out|refine aD ?_ Ah.out|refine aD ?_ Ak.out)|exact HB.out)) hb)
        clear yx
        clear yA
        clear yB
        clear yC
        clear yF
        clear yG
        clear yH
        clear yI
        clear xV
        clear xW
        clear xX
        clear xZ
        clear HB
        have yx:=zJ
        have yA:=zV
        have yB:=zW
        have yC:=zX
        have yF:=zY
        have yG:=zZ
        have yH:=z8
        have yI:=Ac
        have xV:=Ae
        have xW:=Af
        have xX:=yZ
        have xZ:=zh
        have HB:=zi
        clear zJ zV zW zX zY zZ z8 Ac Ae Af yZ zh zi
        (try clear hb)
        (try clear hb2)
        (try clear hk)
        (try clear hi)
        refine hK.out _ _ ⟨(ah xV.out 0).trans rfl,(ah xV.out 1).trans rfl,(ah xV.out 2).trans rfl,(ah xV.out 3).trans rfl,(ah xV.out 4).trans rfl,(ah xV.out 5).trans rfl,(ah xW.out 0).trans rfl,(ah xW.out 1).trans rfl,(ah xW.out 2).trans rfl,(ah xW.out 3).trans rfl,(ah xW.out 4).trans rfl,(ah xW.out 5).trans rfl,(ah xX.out 0).trans rfl,(ah xX.out 1).trans rfl,(ah xX.out 2).trans rfl,(ah xX.out 3).trans rfl,(ah xX.out 4).trans rfl,(ah xX.out 5).trans rfl,(ah xZ.out 0).trans rfl,(ah xZ.out 1).trans rfl,(ah xZ.out 2).trans rfl,(ah xZ.out 3).trans rfl,(ah xZ.out 4).trans rfl,(ah xZ.out 5).trans rfl⟩ (fun hHeld=>?_)
        clear hK K
        refine dL (a':=?_) ?_ ?_
        rotate_left
        ·show Act.put _ (some 46) _ = _
         simp only [Act.put,List.setIfInBounds_toArray,List.set_cons_zero,List.set_cons_succ,bA,bB]
         rfl
        refine gL (i:=21) (N:=some 49) #[true,true,true,true,true,true,true,true,true,true,true,true,true,true,true,true,true,true,true,true,true,true,false,false,false,false,false,false,false,false] rfl rfl (dM HT_.out (by kernel_rfl)) (by decide) (fun K hK=>?_)
        refine iT Tryd.func13 (by kernel_rfl) rfl #[.agg #[.int .i64 t233,.bool t234,.int .i64 yE,.string t236,.slice zw yJ.length zx,.slice zK yL.length zL],.agg #[.int .i64 yM,.bool yO,.int .i64 yQ,.string yU,.slice zo yR.length zq,.slice zB yV.length zC]] (by rfl) rfl rfl (by (try simp only [List.map_toArray,List.map_cons,List.map_nil]);first|done|rfl|(simp only [List.length_drop,List.length_take];rfl)) ?_
        with_reducible refine (aJ.calls zu t233 t234 yE t236 _ _ yJ _ _ yL yM yO yQ yU _ _ yR _ _ yV zF _ ?zk ?zl ?Ai ?Aj ?Ap ?Aq ?Ar ?Au D7.out).mono ?_
        (case zk=>repeat (first|exact (Kd.bU yB.out).2.2|(with_reducible refine Kd.bJ ?_ _)|(with_reducible refine Kd.bL ?_ _)|(with_reducible refine Kd.bS ?_)))
        (case zl=>exact (Kd.bU yB.out).2.1)
        (case Ai=>repeat (first|exact (Kd.bU yC.out).2.2|(with_reducible refine Kd.bJ ?_ _)|(with_reducible refine Kd.bL ?_ _)|(with_reducible refine Kd.bS ?_)))
        (case Aj=>exact (Kd.bU yC.out).2.1)
        (case Ap=>repeat (first|exact (Kd.bU yH.out).2.2|(with_reducible refine Kd.bJ ?_ _)|(with_reducible refine Kd.bL ?_ _)|(with_reducible refine Kd.bS ?_)))
        (case Aq=>exact (Kd.bU yH.out).2.1)
        (case Ar=>repeat (first|exact (Kd.bU yI.out).2.2|(with_reducible refine Kd.bJ ?_ _)|(with_reducible refine Kd.bL ?_ _)|(with_reducible refine Kd.bS ?_)))
        (case Au=>exact (Kd.bU yI.out).2.1)
        rintro e Ey ⟨rfl,hb⟩
        refine ⟨_,rfl,?_⟩
        have zJ:=Aside0.mk (Kd.bq (by (with_reducible repeat (first|apply Kd.aZ|apply Kd.bf|apply Kd.bF));exact yx.out) hb)
        have zV:=Aside0.mk (Kd.bq (by (with_reducible repeat (first|apply Kd.aZ|apply Kd.bf|apply Kd.bF));exact yA.out) hb)
        have zW:=Aside0.mk (Kd.bq (by (with_reducible repeat (first|apply Kd.aZ|apply Kd.bf|apply Kd.bF));exact yB.out) hb)
        have zX:=Aside0.mk (Kd.bq (by (with_reducible repeat (first|apply Kd.aZ|apply Kd.bf|apply Kd.bF));exact yC.out) hb)
        have zY:=Aside0.mk (Kd.bq (by (with_reducible repeat (first|apply Kd.aZ|apply Kd.bf|apply Kd.bF));exact yF.out) hb)
        have zZ:=Aside0.mk (Kd.bq (by (with_reducible repeat (first|apply Kd.aZ|apply Kd.bf|apply Kd.bF));exact yG.out) hb)
        have z8:=Aside0.mk (Kd.bq (by (with_reducible repeat (first|apply Kd.aZ|apply Kd.bf|apply Kd.bF));exact yH.out) hb)
        have Ac:=Aside0.mk (Kd.bq (by (with_reducible repeat (first|apply Kd.aZ|apply Kd.bf|apply Kd.bF));exact yI.out) hb)
        have Ae:=Aside0.mk (aU (g:=yc) (o:=.cells #[.int .i64 yt,.bool yu,.int .i64 yw,.string t226,.slice ze t227.length zf,.slice zH yD.length zI] 29 (0,0)) (bk_ xV.out) hb)
        have Af:=Aside0.mk (aU (g:=yg) (o:=.cells #[.int .i64 t233,.bool t234,.int .i64 yE,.string t236,.slice zw yJ.length zx,.slice zK yL.length zL] 33 (0,0)) (bk_ xW.out) hb)
        have yZ:=Aside0.mk (aU (g:=xS) (o:=.cells #[.int .i64 yN,.bool yP,.int .i64 yS,.string yX,.slice zm yT.length zn,.slice zy yY.length zA] 29 (0,0)) (bk_ xX.out) hb)
        have zh:=Aside0.mk (aU (g:=xU) (o:=.cells #[.int .i64 yM,.bool yO,.int .i64 yQ,.string yU,.slice zo yR.length zq,.slice zB yV.length zC] 33 (0,0)) (bk_ xZ.out) hb)
        have zi:=Aside0.mk (aT (by repeat (first|(with_reducible first|exact HB.out|apply av|apply ak|apply au|refine aD ?_ za.out|refine aD ?_ zD.out|refine aD ?_ Ah.out|refine aD ?_ Ak.out)|exact HB.out)) hb)
        clear yx
        clear yA
        clear yB
        clear yC
        clear yF
        clear yG
        clear yH
        clear yI
        clear xV
        clear xW
        clear xX
        clear xZ
        clear HB
        have yx:=zJ
        have yA:=zV
        have yB:=zW
        have yC:=zX
        have yF:=zY
        have yG:=zZ
        have yH:=z8
        have yI:=Ac
        have xV:=Ae
        have xW:=Af
        have xX:=yZ
        have xZ:=zh
        have HB:=zi
        clear zJ zV zW zX zY zZ z8 Ac Ae Af yZ zh zi
        (try clear hb)
        (try clear hb2)
        (try clear hk)
        (try clear hi)
        refine hK.out _ _ ⟨(ah xV.out 0).trans rfl,(ah xV.out 1).trans rfl,(ah xV.out 2).trans rfl,(ah xV.out 3).trans rfl,(ah xV.out 4).trans rfl,(ah xV.out 5).trans rfl,(ah xW.out 0).trans rfl,(ah xW.out 1).trans rfl,(ah xW.out 2).trans rfl,(ah xW.out 3).trans rfl,(ah xW.out 4).trans rfl,(ah xW.out 5).trans rfl,(ah xX.out 0).trans rfl,(ah xX.out 1).trans rfl,(ah xX.out 2).trans rfl,(ah xX.out 3).trans rfl,(ah xX.out 4).trans rfl,(ah xX.out 5).trans rfl,(ah xZ.out 0).trans rfl,(ah xZ.out 1).trans rfl,(ah xZ.out 2).trans rfl,(ah xZ.out 3).trans rfl,(ah xZ.out 4).trans rfl,(ah xZ.out 5).trans rfl⟩ (fun hHeld=>?_)
        clear hK K
        refine dL (a':=?_) ?_ ?_
        rotate_left
        ·show Act.put _ (some 49) _ = _
         simp only [Act.put,List.setIfInBounds_toArray,List.set_cons_zero,List.set_cons_succ,bA,bB]
         rfl
        refine bR (i:=22) (N:=some 50) (v:=?_) (a':=?_) #[true,true,true,true,true,true,true,true,true,true,true,true,true,true,true,true,true,true,true,true,true,true,true,false,false,false,false,false,false,false] rfl rfl (bH HT_.out (by kernel_rfl)) (fun _ _ _ h=>h) (Or.inl ⟨by rfl,?_⟩) ?_ ?_
        rotate_left
        ·intro w'
         go_simp
         with_reducible rfl
        rotate_left
        ·simp only [Act.put,List.setIfInBounds_toArray,List.set_cons_zero,List.set_cons_succ,bA,bB]
         rfl
        refine bR (i:=23) (N:=some 51) (v:=?_) (a':=?_) #[true,true,true,true,true,true,true,true,true,true,true,true,true,true,true,true,true,true,true,true,true,true,true,true,false,false,false,false,false,false] rfl rfl (bH HT_.out (by kernel_rfl)) (fun _ _ _ h=>h) (Or.inl ⟨by rfl,?_⟩) ?_ ?_
        rotate_left
        ·intro w'
         go_simp
         with_reducible rfl
        rotate_left
        ·simp only [Act.put,List.setIfInBounds_toArray,List.set_cons_zero,List.set_cons_succ,bA,bB]
         rfl
        refine bR (i:=24) (N:=some 52) (v:=?_) (a':=?_) #[true,true,true,true,true,true,true,true,true,true,true,true,true,true,true,true,true,true,true,true,true,true,true,true,true,false,false,false,false,false] rfl rfl (bH HT_.out (by kernel_rfl)) (fun _ _ _ h=>h) (Or.inl ⟨by rfl,?_⟩) ?_ ?_
        rotate_left
        ·intro w'
         go_simp
         with_reducible rfl
        rotate_left
        ·simp only [Act.put,List.setIfInBounds_toArray,List.set_cons_zero,List.set_cons_succ,bA,bB]
         rfl
        refine dG (i:=25) (N:=some 53) (v:=?_) (a':=?_) #[true,true,true,true,true,true,true,true,true,true,true,true,true,true,true,true,true,true,true,true,true,true,true,true,true,true,false,false,false,false] rfl rfl (cu HT_.out HW_.out (by kernel_rfl)) (fun _ _ _ h=>h) (Or.inl ⟨by rfl,?_⟩) hHeld ?_ ?_
        rotate_left
        ·rintro w' ⟨s0,s1,s2,s3,s4,s5,s6,s7,s8,s9,s10,s11,s12,s13,Ba,s15,s16,Bb,Bc,Bd,s20,Bf,Bg,Bh⟩
         go_simp
         with_reducible rfl
        rotate_left
        ·simp only [Act.put,List.setIfInBounds_toArray,List.set_cons_zero,List.set_cons_succ,bA,bB]
         rfl
        refine dG (i:=26) (N:=some 54) (v:=?_) (a':=?_) #[true,true,true,true,true,true,true,true,true,true,true,true,true,true,true,true,true,true,true,true,true,true,true,true,true,true,true,false,false,false] rfl rfl (cu HT_.out HW_.out (by kernel_rfl)) (fun _ _ _ h=>h) (Or.inl ⟨by rfl,?_⟩) hHeld ?_ ?_
        rotate_left
        ·rintro w' ⟨s0,s1,s2,s3,s4,s5,s6,s7,s8,s9,s10,s11,s12,s13,Ba,s15,s16,Bb,Bc,Bd,s20,Bf,Bg,Bh⟩
         go_simp
         with_reducible rfl
        rotate_left
        ·simp only [Act.put,List.setIfInBounds_toArray,List.set_cons_zero,List.set_cons_succ,bA,bB]
         rfl
        refine gL (i:=27) (N:=some 55) #[true,true,true,true,true,true,true,true,true,true,true,true,true,true,true,true,true,true,true,true,true,true,true,true,true,true,true,true,false,false] rfl rfl (dM HT_.out (by kernel_rfl)) (by decide) (fun K hK=>?_)
        refine iT Tryd.func24 (by kernel_rfl) rfl #[.agg #[.int .i64 yt,.bool yu,.int .i64 yw,.string t226,.slice ze t227.length zf,.slice zH yD.length zI],.agg #[.int .i64 yt,.bool yu,.int .i64 yw,.string t226,.slice ze t227.length zf,.slice zH yD.length zI]] (by rfl) rfl rfl (by (try simp only [List.map_toArray,List.map_cons,List.map_nil]);first|done|rfl|(simp only [List.length_drop,List.length_take];rfl)) ?_
        with_reducible refine (bI.calls zu yt yu yw t226 _ _ t227 _ _ yD yt yu yw t226 _ _ t227 _ _ yD zS _ ?zk ?zl ?Ai ?Aj ?Ap ?Aq ?Ar ?Au D8.out).mono ?_
        (case zk=>repeat (first|exact (Kd.bU yx.out).2.2|(with_reducible refine Kd.bJ ?_ _)|(with_reducible refine Kd.bL ?_ _)|(with_reducible refine Kd.bS ?_)))
        (case zl=>exact (Kd.bU yx.out).2.1)
        (case Ai=>repeat (first|exact (Kd.bU yA.out).2.2|(with_reducible refine Kd.bJ ?_ _)|(with_reducible refine Kd.bL ?_ _)|(with_reducible refine Kd.bS ?_)))
        (case Aj=>exact (Kd.bU yA.out).2.1)
        (case Ap=>repeat (first|exact (Kd.bU yx.out).2.2|(with_reducible refine Kd.bJ ?_ _)|(with_reducible refine Kd.bL ?_ _)|(with_reducible refine Kd.bS ?_)))
        (case Aq=>exact (Kd.bU yx.out).2.1)
        (case Ar=>repeat (first|exact (Kd.bU yA.out).2.2|(with_reducible refine Kd.bJ ?_ _)|(with_reducible refine Kd.bL ?_ _)|(with_reducible refine Kd.bS ?_)))
        (case Au=>exact (Kd.bU yA.out).2.1)
        rintro e Ez ⟨rfl,hb⟩
        refine ⟨_,rfl,?_⟩
        have zJ:=Aside0.mk (Kd.bq (by (with_reducible repeat (first|apply Kd.aZ|apply Kd.bf|apply Kd.bF));exact yx.out) hb)
        have zV:=Aside0.mk (Kd.bq (by (with_reducible repeat (first|apply Kd.aZ|apply Kd.bf|apply Kd.bF));exact yA.out) hb)
        have zW:=Aside0.mk (Kd.bq (by (with_reducible repeat (first|apply Kd.aZ|apply Kd.bf|apply Kd.bF));exact yB.out) hb)
        have zX:=Aside0.mk (Kd.bq (by (with_reducible repeat (first|apply Kd.aZ|apply Kd.bf|apply Kd.bF));exact yC.out) hb)
        have zY:=Aside0.mk (Kd.bq (by (with_reducible repeat (first|apply Kd.aZ|apply Kd.bf|apply Kd.bF));exact yF.out) hb)
        have zZ:=Aside0.mk (Kd.bq (by (with_reducible repeat (first|apply Kd.aZ|apply Kd.bf|apply Kd.bF));exact yG.out) hb)
        have z8:=Aside0.mk (Kd.bq (by (with_reducible repeat (first|apply Kd.aZ|apply Kd.bf|apply Kd.bF));exact yH.out) hb)
        have Ac:=Aside0.mk (Kd.bq (by (with_reducible repeat (first|apply Kd.aZ|apply Kd.bf|apply Kd.bF));exact yI.out) hb)
        have Ae:=Aside0.mk (aU (g:=yc) (o:=.cells #[.int .i64 yt,.bool yu,.int .i64 yw,.string t226,.slice ze t227.length zf,.slice zH yD.length zI] 29 (0,0)) (bk_ xV.out) hb)
        have Af:=Aside0.mk (aU (g:=yg) (o:=.cells #[.int .i64 t233,.bool t234,.int .i64 yE,.string t236,.slice zw yJ.length zx,.slice zK yL.length zL] 33 (0,0)) (bk_ xW.out) hb)
        have yZ:=Aside0.mk (aU (g:=xS) (o:=.cells #[.int .i64 yN,.bool yP,.int .i64 yS,.string yX,.slice zm yT.length zn,.slice zy yY.length zA] 29 (0,0)) (bk_ xX.out) hb)
        have zh:=Aside0.mk (aU (g:=xU) (o:=.cells #[.int .i64 yM,.bool yO,.int .i64 yQ,.string yU,.slice zo yR.length zq,.slice zB yV.length zC] 33 (0,0)) (bk_ xZ.out) hb)
        have zi:=Aside0.mk (aT (by repeat (first|(with_reducible first|exact HB.out|apply av|apply ak|apply au|refine aD ?_ za.out|refine aD ?_ zD.out|refine aD ?_ Ah.out|refine aD ?_ Ak.out)|exact HB.out)) hb)
        clear yx
        clear yA
        clear yB
        clear yC
        clear yF
        clear yG
        clear yH
        clear yI
        clear xV
        clear xW
        clear xX
        clear xZ
        clear HB
        have yx:=zJ
        have yA:=zV
        have yB:=zW
        have yC:=zX
        have yF:=zY
        have yG:=zZ
        have yH:=z8
        have yI:=Ac
        have xV:=Ae
        have xW:=Af
        have xX:=yZ
        have xZ:=zh
        have HB:=zi
        clear zJ zV zW zX zY zZ z8 Ac Ae Af yZ zh zi
        (try clear hb)
        (try clear hb2)
        (try clear hk)
        (try clear hi)
        refine hK.out _ _ ⟨(ah xV.out 0).trans rfl,(ah xV.out 1).trans rfl,(ah xV.out 2).trans rfl,(ah xV.out 3).trans rfl,(ah xV.out 4).trans rfl,(ah xV.out 5).trans rfl,(ah xW.out 0).trans rfl,(ah xW.out 1).trans rfl,(ah xW.out 2).trans rfl,(ah xW.out 3).trans rfl,(ah xW.out 4).trans rfl,(ah xW.out 5).trans rfl,(ah xX.out 0).trans rfl,(ah xX.out 1).trans rfl,(ah xX.out 2).trans rfl,(ah xX.out 3).trans rfl,(ah xX.out 4).trans rfl,(ah xX.out 5).trans rfl,(ah xZ.out 0).trans rfl,(ah xZ.out 1).trans rfl,(ah xZ.out 2).trans rfl,(ah xZ.out 3).trans rfl,(ah xZ.out 4).trans rfl,(ah xZ.out 5).trans rfl⟩ (fun hHeld=>?_)
        clear hK K
        refine dL (a':=?_) ?_ ?_
        rotate_left
        ·show Act.put _ (some 55) _ = _
         simp only [Act.put,List.setIfInBounds_toArray,List.set_cons_zero,List.set_cons_succ,bA,bB]
         rfl
        refine bR (i:=28) (N:=some 56) (v:=?_) (a':=?_) #[true,true,true,true,true,true,true,true,true,true,true,true,true,true,true,true,true,true,true,true,true,true,true,true,true,true,true,true,true,false] rfl rfl (bH HT_.out (by kernel_rfl)) (fun _ _ _ h=>h) (Or.inl ⟨by rfl,?_⟩) ?_ ?_
        rotate_left
        ·intro w'
         go_simp
         with_reducible rfl
        rotate_left
        ·simp only [Act.put,List.setIfInBounds_toArray,List.set_cons_zero,List.set_cons_succ,bA,bB]
         rfl
        refine bR (i:=29) (N:=some 4) (v:=?_) (a':=?_) #[true,true,true,true,true,true,true,true,true,true,true,true,true,true,true,true,true,true,true,true,true,true,true,true,true,true,true,true,true,true] rfl rfl (bH HT_.out (by kernel_rfl)) (fun _ _ _ h=>h) (Or.inl ⟨by rfl,?_⟩) ?_ ?_
        rotate_left
        ·intro w'
         go_simp
         with_reducible rfl
        rotate_left
        ·simp only [Act.put,List.setIfInBounds_toArray,List.set_cons_zero,List.set_cons_succ,bA,bB]
         rfl
        refine jm (iB HT_.out (by kernel_rfl)) ?_
        try go_wp2
        go_ret
        exact ⟨by first|rfl|(simp [bg,bn] <;> rfl)|(simp [*,bg,bn] <;> rfl),by repeat (first|(with_reducible first|exact HB.out|apply av|apply ak|apply au|refine aD ?_ za.out|refine aD ?_ zD.out|refine aD ?_ Ah.out|refine aD ?_ Ak.out)|exact HB.out)⟩
       ·rw [if_neg AQ] at H
        have c25b0 : (zG == zF) = false:=by simpa using AQ
        (try (have c25b1 : decide (zG = zF) = false:=by simpa using AQ))
        (try (have c25b2 : (zG == zF) = false:=by simpa using AQ))
        (try (have c25b3 : ¬ (zG = zF):=by simpa using AQ))
        clear AQ
        exact absurd ((Option.some.inj H).trans HTr.out) (by decide)
      ·rw [if_neg Bj] at H
       have c22b0 : (zU == zT) = false:=beq_eq_false_iff_ne.mpr Bj
       have c22b1 : (zU != zT) = true:=bne_iff_ne.mpr Bj
       exact absurd ((Option.some.inj H).trans HTr.out) (by decide)
     ·rw [if_neg c19] at H
      have c19b0 : (Ag == Ad) = false:=beq_eq_false_iff_ne.mpr c19
      have c19b1 : (Ag != Ad) = true:=bne_iff_ne.mpr c19
      exact absurd ((Option.some.inj H).trans HTr.out) (by decide)
    ·replace c16:=Bool.eq_false_iff.mpr c16
     subst c16
     have H1 : (some false) = some r:=by rw [if_neg (show ¬ (false = true) by decide)] at H;exact H
     clear H
     have H:=H1
     clear H1
     exact absurd ((Option.some.inj H).trans HTr.out) (by decide)
end Go.Proofs.YtnkkbiabloodaaaDoor.GVa
