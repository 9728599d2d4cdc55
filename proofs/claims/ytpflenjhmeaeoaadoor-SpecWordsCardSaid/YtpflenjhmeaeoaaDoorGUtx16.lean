/- Written by this session's own program (wip/gen.py) out of the translation: plain Lean functions of the Go functions, and proofs that the calls come to their answers. No conditions beside those in the statements. -/
import Derived.Test.YtpflenjhmeaeoaaDoorGUtx0
import Derived.Test.YtpflenjhmeaeoaaDoorGUtx9
import Derived.Test.YtpflenjhmeaeoaaDoorGUtx11
import Derived.Test.YtpflenjhmeaeoaaDoorGUtx12
import Derived.Test.YtpflenjhmeaeoaaDoorGUtx13
import Derived.Test.YtpflenjhmeaeoaaDoorGUtx14
import Derived.Test.YtpflenjhmeaeoaaDoorGUtx15
import Derived.Test.YtpflenjhmeaeoaaDoorGW
namespace Go.Proofs.YtpflenjhmeaeoaaDoor.GUt
open Go.RowKit Go.Proofs.YtpflenjhmeaeoaaDoorW.PrintWords Go.Proofs.YtpflenjhmeaeoaaDoorW.PrintLast Go.Proofs.YtpflenjhmeaeoaaDoorW.PrintMore
attribute [local go_sem] dS dU eG eH dI dJ dV dW
set_option linter.unusedVariables false
set_option linter.unusedSimpArgs false
def aC.j0 : Nat → Int → Bool → Option (Bool)
 | 0,_,_=>none
 | k + 1,x0,uY=>if uY = true then (some false) else ((bC.f k).bind fun t198=>(if t198 = true then ((dw.f x0).bind fun sH=>((bG.f).bind fun sU=>((bD.f sU x0).bind fun t203=>(if sH.toList = t203.toList then ((cZ.f x0).bind fun sI=>((bA.f).bind fun sJ=>((bD.f sJ x0).bind fun t208=>(some (sI.toList == t208.toList))))) else (some false))))) else (some false)))
def aC.f (k : Nat) (a0 : Int) (a1 : ByteArray) : Option (Bool):=if (a1.size : Int) > 100 then ((bC.f k).bind fun tJ=>(some tJ)) else ((dn.f k a1).bind fun tu=>((dB.f k a1).bind fun sS=>((bG.f).bind fun sK=>((aL.f k sK a1).bind fun t193=>((bA.f).bind fun t194=>((aL.f k t194 a1).bind fun sD=>(if (tu.2 != (decide (t193 ≥ 0))) = true then (aC.j0 k a0 true) else (if (sS.2 != (decide (sD ≥ 0))) = true then (aC.j0 k a0 true) else (if tu.1 = (mx t193 0) then (aC.j0 k a0 (sS.1 != (mx sD 0))) else (aC.j0 k a0 true))))))))))
theorem aC.eu : ∀ k,(∀ y0 y1,LeO (aC.j0 k y0 y1) (aC.j0 (k + 1) y0 y1))
 | 0=>fun _ _ r h=>by simp [aC.j0] at h
 | k + 1=>by
  have tX:=aC.eu k
  ·intro y0 y1
   unfold aC.j0
   repeat' first
   | (with_reducible exact tX _ _)
   | (with_reducible exact bC.mono _)
   | (with_reducible exact aL.mono _ _ _)
   | (with_reducible exact dB.mono _ _)
   | (with_reducible exact dn.mono _ _)
   | (with_reducible exact LeO.refl _)
   | (with_reducible exact LeO.none _)
   | (with_reducible refine LeO.ite ?_ ?_)
   | (with_reducible refine LeO.bind ?_ (fun _=>?_))
   | exact tX _ _
   | exact bC.mono _
   | exact aL.mono _ _ _
   | exact dB.mono _ _
   | exact dn.mono _ _
   | exact LeO.none _
   | refine LeO.ite ?_ ?_
   | refine LeO.bind ?_ (fun _=>?_)
theorem aC.mono : ∀ a0 a1 k,LeO (aC.f k a0 a1) (aC.f (k + 1) a0 a1):=by
 intro a0 a1 k
 have tX:=aC.eu k
 unfold aC.f
 repeat' first
   | (with_reducible exact tX _ _)
   | (with_reducible exact bC.mono _)
   | (with_reducible exact aL.mono _ _ _)
   | (with_reducible exact dB.mono _ _)
   | (with_reducible exact dn.mono _ _)
   | (with_reducible exact LeO.refl _)
   | (with_reducible exact LeO.none _)
   | (with_reducible refine LeO.ite ?_ ?_)
   | (with_reducible refine LeO.bind ?_ (fun _=>?_))
   | exact tX _ _
   | exact bC.mono _
   | exact aL.mono _ _ _
   | exact dB.mono _ _
   | exact dn.mono _ _
   | exact LeO.none _
   | refine LeO.ite ?_ ?_
   | refine LeO.bind ?_ (fun _=>?_)
set_option maxHeartbeats 8000000 in
set_option maxRecDepth 100000 in
theorem aC.calls (k : Nat) (a0 : Int) (a1 : ByteArray) (r : Bool) (w : World) (h : aC.f k a0 a1 = some r) (hG : GW.GW w) :
  Calls Tryd.prog 5 #[.int .i64 a0,.string a1] w fun e w'=>e = .returned (.bool r) ∧ Below w.heap.size w w':=by
 have HB:=Aside0.mk (Below.refl w.heap.size w)
 have H : (if (a1.size : Int) > 100 then ((bC.f k).bind fun tJ=>(some tJ)) else ((dn.f k a1).bind fun tu=>((dB.f k a1).bind fun sS=>((bG.f).bind fun sK=>((aL.f k sK a1).bind fun t193=>((bA.f).bind fun t194=>((aL.f k t194 a1).bind fun sD=>(if (tu.2 != (decide (t193 ≥ 0))) = true then (aC.j0 k a0 true) else (if (sS.2 != (decide (sD ≥ 0))) = true then (aC.j0 k a0 true) else (if tu.1 = (mx t193 0) then (aC.j0 k a0 (sS.1 != (mx sD 0))) else (aC.j0 k a0 true))))))))))) = some r:=h
 clear h
 by_cases c3 : (a1.size : Int) > 100
 ·rw [if_pos c3] at H
  have c3b0 : decide (100 < (a1.size : Int)) = true:=decide_eq_true c3
  have c3b1 : decide (100 < a1.size) = true:=decide_eq_true (by omega)
  clear c3
  replace H:=Option.bind_eq_some_iff.mp H
  obtain ⟨tJ,uP,H⟩:=H
  replace H : (some tJ) = some r:=H
  have A4:=Aside0.mk uP
  clear uP
  obtain rfl:=Option.some.inj H
  go_enter Tryd.func5,Tryd.ntmps5
  go_wp2_with (first|((with_reducible refine aM (f:=8) rfl ?_);refine bE (some 14) rfl rfl Tryd.func8 (by kernel_rfl) rfl #[] rfl (by (try simp only [List.map_toArray,List.map_cons,List.map_nil]);first|done|rfl|(simp only [List.length_drop,List.length_take];rfl)|(simp (disch:=first|omega|(simp at *;omega)) only [bF,bg,bU];rfl)) ?_;(with_reducible refine (bC.calls k  tJ _ A4.out (by first|assumption|exact GW.below hG (by first|exact HB.out|assumption|(repeat (first|(with_reducible first|exact HB.out|apply ay|apply aj|apply av)|exact HB.out)))|exact GW.drawn hG (by first|assumption|(repeat (first|exact Drawn0.refl _|assumption|apply Drawn0.step))))).mono ?_);rintro e w5 ⟨rfl,hb⟩;refine ⟨_,rfl,?_⟩;have sG:=Aside0.mk (aH (by repeat (first|(with_reducible first|exact HB.out|apply ay|apply aj|apply av)|exact HB.out)) hb);clear HB;have HB:=sG;clear sG;(try clear hb);(try clear hb2);(try clear hk);(try clear hi)))
  go_ret
  exact ⟨by first|rfl|(simp [aP,aQ] <;> rfl)|(simp [*,aP,aQ] <;> rfl),by repeat (first|(with_reducible first|exact HB.out|apply ay|apply aj|apply av)|exact HB.out)⟩
 ·rw [if_neg c3] at H
  have c3b0 : decide (100 < (a1.size : Int)) = false:=decide_eq_false c3
  have c3b1 : decide (100 < a1.size) = false:=decide_eq_false (by omega)
  clear c3
  replace H:=Option.bind_eq_some_iff.mp H
  obtain ⟨⟨sQ,sM⟩,uQ,H⟩:=H
  replace H : ((dB.f k a1).bind fun sS=>((bG.f).bind fun sK=>((aL.f k sK a1).bind fun t193=>((bA.f).bind fun t194=>((aL.f k t194 a1).bind fun sD=>(if (sM != (decide (t193 ≥ 0))) = true then (aC.j0 k a0 true) else (if (sS.2 != (decide (sD ≥ 0))) = true then (aC.j0 k a0 true) else (if sQ = (mx t193 0) then (aC.j0 k a0 (sS.1 != (mx sD 0))) else (aC.j0 k a0 true))))))))) = some r:=H
  have A6:=Aside0.mk uQ
  clear uQ
  replace H:=Option.bind_eq_some_iff.mp H
  obtain ⟨⟨sW,sN⟩,uR,H⟩:=H
  replace H : ((bG.f).bind fun sK=>((aL.f k sK a1).bind fun t193=>((bA.f).bind fun t194=>((aL.f k t194 a1).bind fun sD=>(if (sM != (decide (t193 ≥ 0))) = true then (aC.j0 k a0 true) else (if (sN != (decide (sD ≥ 0))) = true then (aC.j0 k a0 true) else (if sQ = (mx t193 0) then (aC.j0 k a0 (sW != (mx sD 0))) else (aC.j0 k a0 true)))))))) = some r:=H
  have A7:=Aside0.mk uR
  clear uR
  replace H:=Option.bind_eq_some_iff.mp H
  obtain ⟨sK,uS,H⟩:=H
  replace H : ((aL.f k sK a1).bind fun t193=>((bA.f).bind fun t194=>((aL.f k t194 a1).bind fun sD=>(if (sM != (decide (t193 ≥ 0))) = true then (aC.j0 k a0 true) else (if (sN != (decide (sD ≥ 0))) = true then (aC.j0 k a0 true) else (if sQ = (mx t193 0) then (aC.j0 k a0 (sW != (mx sD 0))) else (aC.j0 k a0 true))))))) = some r:=H
  have A8:=Aside0.mk uS
  clear uS
  replace H:=Option.bind_eq_some_iff.mp H
  obtain ⟨t193,uT,H⟩:=H
  replace H : ((bA.f).bind fun t194=>((aL.f k t194 a1).bind fun sD=>(if (sM != (decide (t193 ≥ 0))) = true then (aC.j0 k a0 true) else (if (sN != (decide (sD ≥ 0))) = true then (aC.j0 k a0 true) else (if sQ = (mx t193 0) then (aC.j0 k a0 (sW != (mx sD 0))) else (aC.j0 k a0 true)))))) = some r:=H
  have A9:=Aside0.mk uT
  clear uT
  replace H:=Option.bind_eq_some_iff.mp H
  obtain ⟨t194,tY,H⟩:=H
  replace H : ((aL.f k t194 a1).bind fun sD=>(if (sM != (decide (t193 ≥ 0))) = true then (aC.j0 k a0 true) else (if (sN != (decide (sD ≥ 0))) = true then (aC.j0 k a0 true) else (if sQ = (mx t193 0) then (aC.j0 k a0 (sW != (mx sD 0))) else (aC.j0 k a0 true))))) = some r:=H
  have uU:=Aside0.mk tY
  clear tY
  replace H:=Option.bind_eq_some_iff.mp H
  obtain ⟨sD,tZ,H⟩:=H
  replace H : (if (sM != (decide (t193 ≥ 0))) = true then (aC.j0 k a0 true) else (if (sN != (decide (sD ≥ 0))) = true then (aC.j0 k a0 true) else (if sQ = (mx t193 0) then (aC.j0 k a0 (sW != (mx sD 0))) else (aC.j0 k a0 true)))) = some r:=H
  have uZ:=Aside0.mk tZ
  clear tZ
  have tT:=Aside0.mk H
  clear H
  go_enter Tryd.func5,Tryd.ntmps5
  go_upto_region 6 with (first|((with_reducible refine aM (f:=16) rfl ?_);refine bE (some 17) rfl rfl Tryd.func16 (by kernel_rfl) rfl #[.string a1] rfl (by (try simp only [List.map_toArray,List.map_cons,List.map_nil]);first|done|rfl|(simp only [List.length_drop,List.length_take];rfl)|(simp (disch:=first|omega|(simp at *;omega)) only [bF,bg,bU];rfl)) ?_;(with_reducible refine (dn.calls k a1 sQ sM _ A6.out).mono ?_);rintro e vI ⟨rfl,hb⟩;refine ⟨_,rfl,?_⟩;have sG:=Aside0.mk (aH (by repeat (first|(with_reducible first|exact HB.out|apply ay|apply aj|apply av)|exact HB.out)) hb);clear HB;have HB:=sG;clear sG;(try clear hb);(try clear hb2);(try clear hk);(try clear hi))|((with_reducible refine aM (f:=17) rfl ?_);refine bE (some 22) rfl rfl Tryd.func17 (by kernel_rfl) rfl #[.string a1] rfl (by (try simp only [List.map_toArray,List.map_cons,List.map_nil]);first|done|rfl|(simp only [List.length_drop,List.length_take];rfl)|(simp (disch:=first|omega|(simp at *;omega)) only [bF,bg,bU];rfl)) ?_;(with_reducible refine (dB.calls k a1 sW sN _ A7.out).mono ?_);rintro e vJ ⟨rfl,hb⟩;refine ⟨_,rfl,?_⟩;have sG:=Aside0.mk (aH (by repeat (first|(with_reducible first|exact HB.out|apply ay|apply aj|apply av)|exact HB.out)) hb);clear HB;have HB:=sG;clear sG;(try clear hb);(try clear hb2);(try clear hk);(try clear hi))|((with_reducible refine aM (f:=19) rfl ?_);refine bE (some 25) rfl rfl Tryd.func19 (by kernel_rfl) rfl #[] rfl (by (try simp only [List.map_toArray,List.map_cons,List.map_nil]);first|done|rfl|(simp only [List.length_drop,List.length_take];rfl)|(simp (disch:=first|omega|(simp at *;omega)) only [bF,bg,bU];rfl)) ?_;(with_reducible refine (bG.calls  sK _ A8.out).mono ?_);rintro e vK ⟨vk,rfl,ho0,hb⟩;refine ⟨_,rfl,?_⟩;have sG:=Aside0.mk (Kd.fG ho0 (aU (by repeat (first|(with_reducible first|exact HB.out|apply ay|apply aj|apply av)|exact HB.out))));have tC:=Aside0.mk (aH (by repeat (first|(with_reducible first|exact HB.out|apply ay|apply aj|apply av)|exact HB.out)) hb);clear HB;have sV:=sG;have HB:=tC;clear sG tC;(try clear hb);(try clear hb2);(try clear hk);(try clear hi);(try clear ho0);obtain ⟨uz,uD,uE⟩:=Kd.gq sV.out;subst uE)|((with_reducible refine aM (f:=18) rfl ?_);refine bE (some 27) rfl rfl Tryd.func18 (by kernel_rfl) rfl #[.slice uz sK.length uD,.string a1] rfl (by (try simp only [List.map_toArray,List.map_cons,List.map_nil]);first|done|rfl|(simp only [List.length_drop,List.length_take];rfl)|(simp (disch:=first|omega|(simp at *;omega)) only [bF,bg,bU];rfl)) ?_;(with_reducible refine (aL.calls k _ _ sK a1 t193 _ ?sO ?sP A9.out).mono ?_);(case sO=>repeat (first|exact (Kd.dX sV.out).2.2|(with_reducible refine Kd.bP ?_ _)|(with_reducible refine Kd.bQ ?_ _)|(with_reducible refine Kd.cB ?_)));(case sP=>exact (Kd.dX sV.out).2.1);rintro e w' ⟨rfl,⟨nd,rfl⟩⟩;refine ⟨_,rfl,?_⟩)|((with_reducible refine aM (f:=20) rfl ?_);refine bE (some 28) rfl rfl Tryd.func20 (by kernel_rfl) rfl #[] rfl (by (try simp only [List.map_toArray,List.map_cons,List.map_nil]);first|done|rfl|(simp only [List.length_drop,List.length_take];rfl)|(simp (disch:=first|omega|(simp at *;omega)) only [bF,bg,bU];rfl)) ?_;(with_reducible refine (bA.calls  t194 _ uU.out).mono ?_);rintro e vL ⟨vo,rfl,ho0,hb⟩;refine ⟨_,rfl,?_⟩;have sG:=Aside0.mk (Kd.jB (by (with_reducible repeat (first|apply Kd.gP|apply Kd.gQ|apply Kd.iL));exact sV.out) (Kd.lJ ho0) hb);have tC:=Aside0.mk (Kd.fG (Kd.lK ho0 (Kd.pQ (by (with_reducible repeat (first|apply Kd.gP|apply Kd.gQ|apply Kd.iL));exact sV.out))) (aU (by repeat (first|(with_reducible first|exact HB.out|apply ay|apply aj|apply av)|exact HB.out))));have uf:=Aside0.mk (aH (by repeat (first|(with_reducible first|exact HB.out|apply ay|apply aj|apply av)|exact HB.out)) hb);clear sV;clear HB;have sV:=sG;have tK:=tC;have HB:=uf;clear sG tC uf;(try clear hb);(try clear hb2);(try clear hk);(try clear hi);(try clear ho0);obtain ⟨uF,uG,uH⟩:=Kd.gq tK.out;subst uH)|((with_reducible refine aM (f:=18) rfl ?_);refine bE (some 30) rfl rfl Tryd.func18 (by kernel_rfl) rfl #[.slice uF t194.length uG,.string a1] rfl (by (try simp only [List.map_toArray,List.map_cons,List.map_nil]);first|done|rfl|(simp only [List.length_drop,List.length_take];rfl)|(simp (disch:=first|omega|(simp at *;omega)) only [bF,bg,bU];rfl)) ?_;(with_reducible refine (aL.calls k _ _ t194 a1 sD _ ?sO ?sP uZ.out).mono ?_);(case sO=>repeat (first|exact (Kd.dX tK.out).2.2|(with_reducible refine Kd.bP ?_ _)|(with_reducible refine Kd.bQ ?_ _)|(with_reducible refine Kd.cB ?_)));(case sP=>exact (Kd.dX tK.out).2.1);rintro e w' ⟨rfl,⟨nd,rfl⟩⟩;refine ⟨_,rfl,?_⟩))
  (try simp only [Act.put,List.setIfInBounds_toArray,List.set_cons_zero,List.set_cons_succ])
  go_cut [52] (fun v52 wc=>∃ (kq : Nat) (sZ : Bool),v52 = .bool sZ ∧ Aside0 (aC.j0 kq a0 sZ = some r) ∧ Aside0 (kq ≤ k) ∧ Aside0 (Below w.heap.size w wc))
  case first =>
   have H:=tT.out
   clear tT
   by_cases c19 : (sM != (decide (t193 ≥ 0))) = true
   ·rw [if_pos c19] at H
    have c19b0 : (sM != (decide (t193 ≥ 0))) = true:=c19
    (try (have c19b1 : decide (sM = (decide (t193 ≥ 0))) = false:=by simpa using c19))
    (try (have c19b2 : (sM == (decide (t193 ≥ 0))) = false:=by simpa using c19))
    (try (have c19b3 : ¬ (sM = (decide (t193 ≥ 0))):=by simpa using c19))
    clear c19
    (first|rw [c19b0]|(simp only [aV,aW];rw [c19b0])|skip)
    have H':=Aside0.mk H
    clear H
    go_wp2
    go_meet
    case rel=>exact ⟨_,(true),(by first|rfl|(simp;done)|(simp [*];done)),H',⟨by first|omega|exact Nat.le_refl _⟩,⟨by repeat (first|(with_reducible first|exact HB.out|apply ay|apply aj|apply av)|exact HB.out)⟩⟩
   ·rw [if_neg c19] at H
    have c19b0 : (sM != (decide (t193 ≥ 0))) = false:=by simpa using c19
    (try (have c19b1 : decide (sM = (decide (t193 ≥ 0))) = true:=by simpa using c19))
    (try (have c19b2 : (sM == (decide (t193 ≥ 0))) = true:=by simpa using c19))
    clear c19
    (first|rw [c19b0]|(simp only [aV,aW];rw [c19b0])|skip)
    by_cases c20 : (sN != (decide (sD ≥ 0))) = true
    ·rw [if_pos c20] at H
     have c20b0 : (sN != (decide (sD ≥ 0))) = true:=c20
     (try (have c20b1 : decide (sN = (decide (sD ≥ 0))) = false:=by simpa using c20))
     (try (have c20b2 : (sN == (decide (sD ≥ 0))) = false:=by simpa using c20))
     (try (have c20b3 : ¬ (sN = (decide (sD ≥ 0))):=by simpa using c20))
     clear c20
     have H':=Aside0.mk H
     clear H
     go_wp2
     go_meet
     case rel=>exact ⟨_,(true),(by first|rfl|(simp;done)|(simp [*];done)),H',⟨by first|omega|exact Nat.le_refl _⟩,⟨by repeat (first|(with_reducible first|exact HB.out|apply ay|apply aj|apply av)|exact HB.out)⟩⟩
    ·rw [if_neg c20] at H
     have c20b0 : (sN != (decide (sD ≥ 0))) = false:=by simpa using c20
     (try (have c20b1 : decide (sN = (decide (sD ≥ 0))) = true:=by simpa using c20))
     (try (have c20b2 : (sN == (decide (sD ≥ 0))) = true:=by simpa using c20))
     clear c20
     obtain ⟨tq,tH⟩ : ∃ j_ : Int,(mx t193 0) = j_:=⟨_,rfl⟩
     replace H : (if sQ = (tq) then (aC.j0 k a0 (sW != (mx sD 0))) else (aC.j0 k a0 true)) = some r:=by first|(rw [tH] at H;exact H)|(simp only [tH] at H ⊢;exact H)
     (try (have hji21l : 0 ≤ tq:=by (rw [← tH];unfold mx;(repeat' split) <;> omega)))
     (try (have hji21m : 0 ≤ tq:=by omega))
     have uI : (if t193 < 0 then 0 else t193) = tq:=tH
     by_cases tQ : sQ = (tq)
     ·rw [if_pos tQ] at H
      have c22b0 : (sQ == (tq)) = true:=beq_iff_eq.mpr tQ
      have c22b1 : (sQ != (tq)) = false:=bne_eq_false_iff_eq.mpr tQ
      clear tQ
      obtain ⟨tL,tF⟩ : ∃ j_ : Int,(mx sD 0) = j_:=⟨_,rfl⟩
      replace H : (aC.j0 k a0 (sW != (tL))) = some r:=by first|(rw [tF] at H;exact H)|(simp only [tF] at H ⊢;exact H)
      (try (have hji23l : 0 ≤ tL:=by (rw [← tF];unfold mx;(repeat' split) <;> omega)))
      (try (have hji23m : 0 ≤ tL:=by omega))
      have uJ : (if sD < 0 then 0 else sD) = tL:=tF
      have H':=Aside0.mk H
      clear H
      go_wp2
      go_meet
      case rel=>exact ⟨_,((sW != (tL))),(by first|rfl|(simp;done)|(simp only [← tF] <;> (first|rfl|simp))|(simp [*];done)),H',⟨by first|omega|exact Nat.le_refl _⟩,⟨by repeat (first|(with_reducible first|exact HB.out|apply ay|apply aj|apply av)|exact HB.out)⟩⟩
     ·rw [if_neg tQ] at H
      have c22b0 : (sQ == (tq)) = false:=beq_eq_false_iff_ne.mpr tQ
      have c22b1 : (sQ != (tq)) = true:=bne_iff_ne.mpr tQ
      have H':=Aside0.mk H
      clear H
      go_wp2
      go_meet
      case rel=>exact ⟨_,(true),(by first|rfl|(simp;done)|(simp [*];done)),H',⟨by first|omega|exact Nat.le_refl _⟩,⟨by repeat (first|(with_reducible first|exact HB.out|apply ay|apply aj|apply av)|exact HB.out)⟩⟩
  case rest =>
   clear tT
   try clear c1
   try clear c2
   try clear p2
   try clear c3
   try clear c3b0
   try clear c3b1
   try clear c5
   try clear c8
   try clear c16
   try clear c17
   try clear c18
   try clear c19
   try clear c19b0
   try clear c19b1
   try clear c19b2
   try clear c20
   try clear c20b0
   try clear c20b1
   try clear c20b2
   try clear tQ
   try clear c22b0
   try clear c22b1
   obtain ⟨kq,sZ,rfl,HA,vv,HB⟩:=hcut
   cases kq with
   | zero=>exact absurd HA.out (by simp [aC.j0])
   | succ tO =>
    have H:=HA.out
    clear HA
    simp only [aC.j0] at H
    by_cases c24 : sZ = true
    ·subst c24
     have H1 : (some false) = some r:=by rw [if_pos rfl] at H;exact H
     clear H
     have H:=H1
     clear H1
     obtain rfl:=Option.some.inj H
     go_wp2
     go_ret
     exact ⟨by first|rfl|(simp [aP,aQ] <;> rfl)|(simp [*,aP,aQ] <;> rfl),by repeat (first|(with_reducible first|exact HB.out|apply ay|apply aj|apply av)|exact HB.out)⟩
    ·replace c24:=Bool.eq_false_iff.mpr c24
     subst c24
     have H1 : ((bC.f tO).bind fun t198=>(if t198 = true then ((dw.f a0).bind fun sH=>((bG.f).bind fun sU=>((bD.f sU a0).bind fun t203=>(if sH.toList = t203.toList then ((cZ.f a0).bind fun sI=>((bA.f).bind fun sJ=>((bD.f sJ a0).bind fun t208=>(some (sI.toList == t208.toList))))) else (some false))))) else (some false))) = some r:=by rw [if_neg (show ¬ (false = true) by decide)] at H;exact H
     clear H
     have H:=H1
     clear H1
     replace H:=Option.bind_eq_some_iff.mp H
     obtain ⟨t198,ug,H⟩:=H
     replace H : (if t198 = true then ((dw.f a0).bind fun sH=>((bG.f).bind fun sU=>((bD.f sU a0).bind fun t203=>(if sH.toList = t203.toList then ((cZ.f a0).bind fun sI=>((bA.f).bind fun sJ=>((bD.f sJ a0).bind fun t208=>(some (sI.toList == t208.toList))))) else (some false))))) else (some false)) = some r:=H
     have uK:=Aside0.mk ug
     clear ug
     by_cases uy : t198 = true
     ·subst uy
      have H1 : ((dw.f a0).bind fun sH=>((bG.f).bind fun sU=>((bD.f sU a0).bind fun t203=>(if sH.toList = t203.toList then ((cZ.f a0).bind fun sI=>((bA.f).bind fun sJ=>((bD.f sJ a0).bind fun t208=>(some (sI.toList == t208.toList))))) else (some false))))) = some r:=by rw [if_pos rfl] at H;exact H
      clear H
      have H:=H1
      clear H1
      replace H:=Option.bind_eq_some_iff.mp H
      obtain ⟨sH,uh,H⟩:=H
      replace H : ((bG.f).bind fun sU=>((bD.f sU a0).bind fun t203=>(if sH.toList = t203.toList then ((cZ.f a0).bind fun sI=>((bA.f).bind fun sJ=>((bD.f sJ a0).bind fun t208=>(some (sI.toList == t208.toList))))) else (some false)))) = some r:=H
      have uV:=Aside0.mk uh
      clear uh
      replace H:=Option.bind_eq_some_iff.mp H
      obtain ⟨sU,uj,H⟩:=H
      replace H : ((bD.f sU a0).bind fun t203=>(if sH.toList = t203.toList then ((cZ.f a0).bind fun sI=>((bA.f).bind fun sJ=>((bD.f sJ a0).bind fun t208=>(some (sI.toList == t208.toList))))) else (some false))) = some r:=H
      have uL:=Aside0.mk uj
      clear uj
      have e_ : sK = sU:=Option.some.inj (A8.out.symm.trans uL.out)
      subst e_
      replace H:=Option.bind_eq_some_iff.mp H
      obtain ⟨t203,um,H⟩:=H
      replace H : (if sH.toList = t203.toList then ((cZ.f a0).bind fun sI=>((bA.f).bind fun sJ=>((bD.f sJ a0).bind fun t208=>(some (sI.toList == t208.toList))))) else (some false)) = some r:=H
      have uW:=Aside0.mk um
      clear um
      by_cases tV : sH.toList = t203.toList
      ·rw [if_pos tV] at H
       have c30b0 : (sH.toList == t203.toList) = true:=beq_iff_eq.mpr tV
       have c30b1 : (sH.toList != t203.toList) = false:=bne_eq_false_iff_eq.mpr tV
       clear tV
       replace H:=Option.bind_eq_some_iff.mp H
       obtain ⟨sI,uo,H⟩:=H
       replace H : ((bA.f).bind fun sJ=>((bD.f sJ a0).bind fun t208=>(some (sI.toList == t208.toList)))) = some r:=H
       have vw:=Aside0.mk uo
       clear uo
       replace H:=Option.bind_eq_some_iff.mp H
       obtain ⟨sJ,uq,H⟩:=H
       replace H : ((bD.f sJ a0).bind fun t208=>(some (sI.toList == t208.toList))) = some r:=H
       have uX:=Aside0.mk uq
       clear uq
       have e_ : t194 = sJ:=Option.some.inj (uU.out.symm.trans uX.out)
       subst e_
       replace H:=Option.bind_eq_some_iff.mp H
       obtain ⟨t208,uw,H⟩:=H
       replace H : (some (sI.toList == t208.toList)) = some r:=H
       have vB:=Aside0.mk uw
       clear uw
       obtain rfl:=Option.some.inj H
       go_wp2_with (first|((with_reducible refine aM (f:=8) rfl ?_);refine bE (some 53) rfl rfl Tryd.func8 (by kernel_rfl) rfl #[] rfl (by (try simp only [List.map_toArray,List.map_cons,List.map_nil]);first|done|rfl|(simp only [List.length_drop,List.length_take];rfl)|(simp (disch:=first|omega|(simp at *;omega)) only [bF,bg,bU];rfl)) ?_;(with_reducible refine (bC.calls tO  true _ uK.out (by first|assumption|exact GW.below hG (by first|exact HB.out|assumption|(repeat (first|(with_reducible first|exact HB.out|apply ay|apply aj|apply av)|exact HB.out)))|exact GW.drawn hG (by first|assumption|(repeat (first|exact Drawn0.refl _|assumption|apply Drawn0.step))))).mono ?_);rintro e vM ⟨rfl,hb⟩;refine ⟨_,rfl,?_⟩;have sG:=Aside0.mk (aH (by repeat (first|(with_reducible first|exact HB.out|apply ay|apply aj|apply av)|exact HB.out)) hb);clear HB;have HB:=sG;clear sG;(try clear hb);(try clear hb2);(try clear hk);(try clear hi))|(go_at_call 21;(with_reducible refine (dw.calls a0 sH _ uV.out).mono ?_);rintro e vN ⟨rfl,hb⟩;have sG:=Aside0.mk (aH (by repeat (first|(with_reducible first|exact HB.out|apply ay|apply aj|apply av)|exact HB.out)) hb);clear HB;have HB:=sG;clear sG;(try clear hb);(try clear hb2);(try clear hk);(try clear hi))|(go_at_call 19;(with_reducible refine (bG.calls  sK _ uL.out).mono ?_);rintro e vO ⟨v201,rfl,ho0,hb⟩;have sG:=Aside0.mk (Kd.fG ho0 (aU (by repeat (first|(with_reducible first|exact HB.out|apply ay|apply aj|apply av)|exact HB.out))));have tC:=Aside0.mk (aH (by repeat (first|(with_reducible first|exact HB.out|apply ay|apply aj|apply av)|exact HB.out)) hb);clear HB;have sF:=sG;have HB:=tC;clear sG tC;(try clear hb);(try clear hb2);(try clear hk);(try clear hi);(try clear ho0);obtain ⟨vC,vD,uM⟩:=Kd.gq sF.out;subst uM)|(go_at_call 22;(with_reducible refine (bD.calls _ _ sK a0 t203 _ ?sO ?sP uW.out).mono ?_);(case sO=>repeat (first|exact (Kd.dX sF.out).2.2|(with_reducible refine Kd.bP ?_ _)|(with_reducible refine Kd.bQ ?_ _)|(with_reducible refine Kd.cB ?_)));(case sP=>exact (Kd.dX sF.out).2.1);rintro e w' ⟨rfl,⟨nd,rfl⟩⟩)|(go_at_call 23;(with_reducible refine (cZ.calls a0 sI _ vw.out).mono ?_);rintro e vP ⟨rfl,hb⟩;have sG:=Aside0.mk (Kd.jr (by (with_reducible repeat (first|apply Kd.gP|apply Kd.gQ|apply Kd.iL));exact sF.out) hb);have tC:=Aside0.mk (aH (by repeat (first|(with_reducible first|exact HB.out|apply ay|apply aj|apply av)|exact HB.out)) hb);clear sF;clear HB;have sF:=sG;have HB:=tC;clear sG tC;(try clear hb);(try clear hb2);(try clear hk);(try clear hi))|(go_at_call 20;(with_reducible refine (bA.calls  t194 _ uX.out).mono ?_);rintro e vQ ⟨v206,rfl,ho0,hb⟩;have sG:=Aside0.mk (Kd.jB (by (with_reducible repeat (first|apply Kd.gP|apply Kd.gQ|apply Kd.iL));exact sF.out) (Kd.lJ ho0) hb);have tC:=Aside0.mk (Kd.fG (Kd.lK ho0 (Kd.pQ (by (with_reducible repeat (first|apply Kd.gP|apply Kd.gQ|apply Kd.iL));exact sF.out))) (aU (by repeat (first|(with_reducible first|exact HB.out|apply ay|apply aj|apply av)|exact HB.out))));have uf:=Aside0.mk (aH (by repeat (first|(with_reducible first|exact HB.out|apply ay|apply aj|apply av)|exact HB.out)) hb);clear sF;clear HB;have sF:=sG;have tN:=tC;have HB:=uf;clear sG tC uf;(try clear hb);(try clear hb2);(try clear hk);(try clear hi);(try clear ho0);obtain ⟨vE,vF,uN⟩:=Kd.gq tN.out;subst uN)|(go_at_call 22;(with_reducible refine (bD.calls _ _ t194 a0 t208 _ ?sO ?sP vB.out).mono ?_);(case sO=>repeat (first|exact (Kd.dX tN.out).2.2|(with_reducible refine Kd.bP ?_ _)|(with_reducible refine Kd.bQ ?_ _)|(with_reducible refine Kd.cB ?_)));(case sP=>exact (Kd.dX tN.out).2.1);rintro e w' ⟨rfl,⟨nd,rfl⟩⟩))
       go_ret
       exact ⟨by first|rfl|(simp [aP,aQ] <;> rfl)|(simp [*,aP,aQ] <;> rfl),by repeat (first|(with_reducible first|exact HB.out|apply ay|apply aj|apply av)|exact HB.out)⟩
      ·rw [if_neg tV] at H
       have c30b0 : (sH.toList == t203.toList) = false:=beq_eq_false_iff_ne.mpr tV
       have c30b1 : (sH.toList != t203.toList) = true:=bne_iff_ne.mpr tV
       obtain rfl:=Option.some.inj H
       go_wp2_with (first|((with_reducible refine aM (f:=8) rfl ?_);refine bE (some 53) rfl rfl Tryd.func8 (by kernel_rfl) rfl #[] rfl (by (try simp only [List.map_toArray,List.map_cons,List.map_nil]);first|done|rfl|(simp only [List.length_drop,List.length_take];rfl)|(simp (disch:=first|omega|(simp at *;omega)) only [bF,bg,bU];rfl)) ?_;(with_reducible refine (bC.calls tO  true _ uK.out (by first|assumption|exact GW.below hG (by first|exact HB.out|assumption|(repeat (first|(with_reducible first|exact HB.out|apply ay|apply aj|apply av)|exact HB.out)))|exact GW.drawn hG (by first|assumption|(repeat (first|exact Drawn0.refl _|assumption|apply Drawn0.step))))).mono ?_);rintro e vR ⟨rfl,hb⟩;refine ⟨_,rfl,?_⟩;have sG:=Aside0.mk (aH (by repeat (first|(with_reducible first|exact HB.out|apply ay|apply aj|apply av)|exact HB.out)) hb);clear HB;have HB:=sG;clear sG;(try clear hb);(try clear hb2);(try clear hk);(try clear hi))|(go_at_call 21;(with_reducible refine (dw.calls a0 sH _ uV.out).mono ?_);rintro e vS ⟨rfl,hb⟩;have sG:=Aside0.mk (aH (by repeat (first|(with_reducible first|exact HB.out|apply ay|apply aj|apply av)|exact HB.out)) hb);clear HB;have HB:=sG;clear sG;(try clear hb);(try clear hb2);(try clear hk);(try clear hi))|(go_at_call 19;(with_reducible refine (bG.calls  sK _ uL.out).mono ?_);rintro e vT ⟨v201,rfl,ho0,hb⟩;have sG:=Aside0.mk (Kd.fG ho0 (aU (by repeat (first|(with_reducible first|exact HB.out|apply ay|apply aj|apply av)|exact HB.out))));have tC:=Aside0.mk (aH (by repeat (first|(with_reducible first|exact HB.out|apply ay|apply aj|apply av)|exact HB.out)) hb);clear HB;have sF:=sG;have HB:=tC;clear sG tC;(try clear hb);(try clear hb2);(try clear hk);(try clear hi);(try clear ho0);obtain ⟨vG,vH,uO⟩:=Kd.gq sF.out;subst uO)|(go_at_call 22;(with_reducible refine (bD.calls _ _ sK a0 t203 _ ?sO ?sP uW.out).mono ?_);(case sO=>repeat (first|exact (Kd.dX sF.out).2.2|(with_reducible refine Kd.bP ?_ _)|(with_reducible refine Kd.bQ ?_ _)|(with_reducible refine Kd.cB ?_)));(case sP=>exact (Kd.dX sF.out).2.1);rintro e w' ⟨rfl,⟨nd,rfl⟩⟩))
       go_ret
       exact ⟨by first|rfl|(simp [aP,aQ] <;> rfl)|(simp [*,aP,aQ] <;> rfl),by repeat (first|(with_reducible first|exact HB.out|apply ay|apply aj|apply av)|exact HB.out)⟩
     ·replace uy:=Bool.eq_false_iff.mpr uy
      subst uy
      have H1 : (some false) = some r:=by rw [if_neg (show ¬ (false = true) by decide)] at H;exact H
      clear H
      have H:=H1
      clear H1
      obtain rfl:=Option.some.inj H
      go_wp2_with (first|((with_reducible refine aM (f:=8) rfl ?_);refine bE (some 53) rfl rfl Tryd.func8 (by kernel_rfl) rfl #[] rfl (by (try simp only [List.map_toArray,List.map_cons,List.map_nil]);first|done|rfl|(simp only [List.length_drop,List.length_take];rfl)|(simp (disch:=first|omega|(simp at *;omega)) only [bF,bg,bU];rfl)) ?_;(with_reducible refine (bC.calls tO  false _ uK.out (by first|assumption|exact GW.below hG (by first|exact HB.out|assumption|(repeat (first|(with_reducible first|exact HB.out|apply ay|apply aj|apply av)|exact HB.out)))|exact GW.drawn hG (by first|assumption|(repeat (first|exact Drawn0.refl _|assumption|apply Drawn0.step))))).mono ?_);rintro e vU ⟨rfl,hb⟩;refine ⟨_,rfl,?_⟩;have sG:=Aside0.mk (aH (by repeat (first|(with_reducible first|exact HB.out|apply ay|apply aj|apply av)|exact HB.out)) hb);clear HB;have HB:=sG;clear sG;(try clear hb);(try clear hb2);(try clear hk);(try clear hi)))
      go_ret
      exact ⟨by first|rfl|(simp [aP,aQ] <;> rfl)|(simp [*,aP,aQ] <;> rfl),by repeat (first|(with_reducible first|exact HB.out|apply ay|apply aj|apply av)|exact HB.out)⟩
end Go.Proofs.YtpflenjhmeaeoaaDoor.GUt
