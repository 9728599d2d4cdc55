/- Written by this session's own program (wip/gen.py) out of the translation: plain Lean functions of the Go functions, and proofs that the calls come to their answers. No conditions beside those in the statements. -/
import Derived.Test.YtpmbdcljphpcnaaDoorGC2x0
import Derived.Test.YtpmbdcljphpcnaaDoorGC2x1
import Derived.Test.YtpmbdcljphpcnaaDoorGC2x3
import Derived.Test.YtpmbdcljphpcnaaDoorGC2Enc0
namespace Go.Proofs.YtpmbdcljphpcnaaDoor.GC2
open Go.RowKit Go.Proofs.YtpmbdcljphpcnaaDoorW.PrintWords Go.Proofs.YtpmbdcljphpcnaaDoorW.PrintLast Go.Proofs.YtpmbdcljphpcnaaDoorW.PrintMore
attribute [local go_sem] eY eZ fJ fK eP eT fq fu
set_option linter.unusedVariables false
set_option linter.unusedSimpArgs false
def dM.f (k : Nat)  : Option (Bool):=(dB.f k 1 ([] : List (S66))).bind fun xP=>((dL.f k).bind fun t127=>(if t127 = true then ((dF.f k).bind fun xK=>(if xK = true then (if xP.2 = 0 then (some (xP.1.toList == ([0,0,0,1,0,0] : List UInt8))) else (some false)) else (some false))) else (some false)))
theorem dM.mono : ∀ k,LeO (dM.f k ) (dM.f (k + 1) ):=by
 intro  k
 unfold dM.f
 repeat' first
   | (with_reducible exact dL.mono _)
   | (with_reducible exact dF.mono _)
   | (with_reducible exact dB.mono _ _ _)
   | (with_reducible exact LeO.refl _)
   | (with_reducible exact LeO.none _)
   | (with_reducible refine LeO.ite ?_ ?_)
   | (with_reducible refine LeO.bind ?_ (fun _=>?_))
   | exact dL.mono _
   | exact dF.mono _
   | exact dB.mono _ _ _
   | exact LeO.none _
   | refine LeO.ite ?_ ?_
   | refine LeO.bind ?_ (fun _=>?_)
set_option maxHeartbeats 8000000 in
set_option maxRecDepth 100000 in
theorem dM.calls (k : Nat)  (r : Bool) (w : World) (h : dM.f k  = some r) :
  Calls Tryd.prog 10 #[] w fun e w'=>e = .returned (.bool r) ∧ Below w.heap.size w w':=by
 have xU:=Tryd.underlying25
 have HB:=Aside0.mk (Below.refl w.heap.size w)
 have H : ((dB.f k 1 ([] : List (S66))).bind fun xP=>((dL.f k).bind fun t127=>(if t127 = true then ((dF.f k).bind fun xK=>(if xK = true then (if xP.2 = 0 then (some (xP.1.toList == ([0,0,0,1,0,0] : List UInt8))) else (some false)) else (some false))) else (some false)))) = some r:=h
 clear h
 replace H:=Option.bind_eq_some_iff.mp H
 obtain ⟨⟨xO,xJ⟩,xQ,H⟩:=H
 replace H : ((dL.f k).bind fun t127=>(if t127 = true then ((dF.f k).bind fun xK=>(if xK = true then (if xJ = 0 then (some (xO.toList == ([0,0,0,1,0,0] : List UInt8))) else (some false)) else (some false))) else (some false))) = some r:=H
 have A1:=Aside0.mk xQ
 clear xQ
 replace H:=Option.bind_eq_some_iff.mp H
 obtain ⟨t127,xR,H⟩:=H
 replace H : (if t127 = true then ((dF.f k).bind fun xK=>(if xK = true then (if xJ = 0 then (some (xO.toList == ([0,0,0,1,0,0] : List UInt8))) else (some false)) else (some false))) else (some false)) = some r:=H
 have A2:=Aside0.mk xR
 clear xR
 by_cases c3 : t127 = true
 ·subst c3
  have H1 : ((dF.f k).bind fun xK=>(if xK = true then (if xJ = 0 then (some (xO.toList == ([0,0,0,1,0,0] : List UInt8))) else (some false)) else (some false))) = some r:=by rw [if_pos rfl] at H;exact H
  clear H
  have H:=H1
  clear H1
  replace H:=Option.bind_eq_some_iff.mp H
  obtain ⟨xK,xS,H⟩:=H
  replace H : (if xK = true then (if xJ = 0 then (some (xO.toList == ([0,0,0,1,0,0] : List UInt8))) else (some false)) else (some false)) = some r:=H
  have A4:=Aside0.mk xS
  clear xS
  by_cases c5 : xK = true
  ·subst c5
   have H1 : (if xJ = 0 then (some (xO.toList == ([0,0,0,1,0,0] : List UInt8))) else (some false)) = some r:=by rw [if_pos rfl] at H;exact H
   clear H
   have H:=H1
   clear H1
   by_cases c6 : xJ = 0
   ·rw [if_pos c6] at H
    have c6b0 : (xJ == 0) = true:=beq_iff_eq.mpr c6
    have c6b1 : (xJ != 0) = false:=bne_eq_false_iff_eq.mpr c6
    clear c6
    obtain rfl:=Option.some.inj H
    go_enter Tryd.func10,Tryd.ntmps10
    go_wp2_with (first|((with_reducible refine bK (f:=13) rfl ?_);refine dH (some 5) rfl rfl Tryd.func13 (by kernel_rfl) rfl #[.agg #[.int .u32 1,.slice none 0 0]] rfl (by (try simp only [List.map_toArray,List.map_cons,List.map_nil]);first|done|rfl|(simp only [List.length_drop,List.length_take];rfl)|(simp (disch:=first|omega|(simp at *;omega)) only [dh,bY,dY];rfl)) ?_;(refine (dB.calls k 1 _ _ ([] : List (S66)) xO xJ _ ?xL ?xM A1.out).mono ?_);(case xL=>exact Kd.kC _ _);(case xM=>exact Nat.le_refl _);rintro e w7 ⟨rfl,hb⟩;refine ⟨_,rfl,?_⟩;have xI:=Aside0.mk (aQ (by repeat (first|(with_reducible first|exact HB.out|apply ay|apply aj|apply av)|exact HB.out)) hb);clear HB;have HB:=xI;clear xI;(try clear hb);(try clear hb2);(try clear hk);(try clear hi))|((with_reducible refine bK (f:=33) rfl ?_);refine dH (some 8) rfl rfl Tryd.func33 (by kernel_rfl) rfl #[] rfl (by (try simp only [List.map_toArray,List.map_cons,List.map_nil]);first|done|rfl|(simp only [List.length_drop,List.length_take];rfl)|(simp (disch:=first|omega|(simp at *;omega)) only [dh,bY,dY];rfl)) ?_;(with_reducible refine (dL.calls k  true _ A2.out).mono ?_);rintro e w8 ⟨rfl,hb⟩;refine ⟨_,rfl,?_⟩;have xI:=Aside0.mk (aQ (by repeat (first|(with_reducible first|exact HB.out|apply ay|apply aj|apply av)|exact HB.out)) hb);clear HB;have HB:=xI;clear xI;(try clear hb);(try clear hb2);(try clear hk);(try clear hi))|(go_at_call 34;(with_reducible refine (dF.calls k  true _ A4.out).mono ?_);rintro e w9 ⟨rfl,hb⟩;have xI:=Aside0.mk (aQ (by repeat (first|(with_reducible first|exact HB.out|apply ay|apply aj|apply av)|exact HB.out)) hb);clear HB;have HB:=xI;clear xI;(try clear hb);(try clear hb2);(try clear hk);(try clear hi)))
    go_ret
    exact ⟨by first|rfl|(simp [aZ,bf] <;> rfl)|(simp [*,aZ,bf] <;> rfl),by repeat (first|(with_reducible first|exact HB.out|apply ay|apply aj|apply av)|exact HB.out)⟩
   ·rw [if_neg c6] at H
    have c6b0 : (xJ == 0) = false:=beq_eq_false_iff_ne.mpr c6
    have c6b1 : (xJ != 0) = true:=bne_iff_ne.mpr c6
    obtain rfl:=Option.some.inj H
    go_enter Tryd.func10,Tryd.ntmps10
    go_wp2_with (first|((with_reducible refine bK (f:=13) rfl ?_);refine dH (some 5) rfl rfl Tryd.func13 (by kernel_rfl) rfl #[.agg #[.int .u32 1,.slice none 0 0]] rfl (by (try simp only [List.map_toArray,List.map_cons,List.map_nil]);first|done|rfl|(simp only [List.length_drop,List.length_take];rfl)|(simp (disch:=first|omega|(simp at *;omega)) only [dh,bY,dY];rfl)) ?_;(refine (dB.calls k 1 _ _ ([] : List (S66)) xO xJ _ ?xL ?xM A1.out).mono ?_);(case xL=>exact Kd.kC _ _);(case xM=>exact Nat.le_refl _);rintro e xV ⟨rfl,hb⟩;refine ⟨_,rfl,?_⟩;have xI:=Aside0.mk (aQ (by repeat (first|(with_reducible first|exact HB.out|apply ay|apply aj|apply av)|exact HB.out)) hb);clear HB;have HB:=xI;clear xI;(try clear hb);(try clear hb2);(try clear hk);(try clear hi))|((with_reducible refine bK (f:=33) rfl ?_);refine dH (some 8) rfl rfl Tryd.func33 (by kernel_rfl) rfl #[] rfl (by (try simp only [List.map_toArray,List.map_cons,List.map_nil]);first|done|rfl|(simp only [List.length_drop,List.length_take];rfl)|(simp (disch:=first|omega|(simp at *;omega)) only [dh,bY,dY];rfl)) ?_;(with_reducible refine (dL.calls k  true _ A2.out).mono ?_);rintro e xW ⟨rfl,hb⟩;refine ⟨_,rfl,?_⟩;have xI:=Aside0.mk (aQ (by repeat (first|(with_reducible first|exact HB.out|apply ay|apply aj|apply av)|exact HB.out)) hb);clear HB;have HB:=xI;clear xI;(try clear hb);(try clear hb2);(try clear hk);(try clear hi))|(go_at_call 34;(with_reducible refine (dF.calls k  true _ A4.out).mono ?_);rintro e xX ⟨rfl,hb⟩;have xI:=Aside0.mk (aQ (by repeat (first|(with_reducible first|exact HB.out|apply ay|apply aj|apply av)|exact HB.out)) hb);clear HB;have HB:=xI;clear xI;(try clear hb);(try clear hb2);(try clear hk);(try clear hi)))
    go_ret
    exact ⟨by first|rfl|(simp [aZ,bf] <;> rfl)|(simp [*,aZ,bf] <;> rfl),by repeat (first|(with_reducible first|exact HB.out|apply ay|apply aj|apply av)|exact HB.out)⟩
  ·replace c5:=Bool.eq_false_iff.mpr c5
   subst c5
   have H1 : (some false) = some r:=by rw [if_neg (show ¬ (false = true) by decide)] at H;exact H
   clear H
   have H:=H1
   clear H1
   obtain rfl:=Option.some.inj H
   go_enter Tryd.func10,Tryd.ntmps10
   go_wp2_with (first|((with_reducible refine bK (f:=13) rfl ?_);refine dH (some 5) rfl rfl Tryd.func13 (by kernel_rfl) rfl #[.agg #[.int .u32 1,.slice none 0 0]] rfl (by (try simp only [List.map_toArray,List.map_cons,List.map_nil]);first|done|rfl|(simp only [List.length_drop,List.length_take];rfl)|(simp (disch:=first|omega|(simp at *;omega)) only [dh,bY,dY];rfl)) ?_;(refine (dB.calls k 1 _ _ ([] : List (S66)) xO xJ _ ?xL ?xM A1.out).mono ?_);(case xL=>exact Kd.kC _ _);(case xM=>exact Nat.le_refl _);rintro e xY ⟨rfl,hb⟩;refine ⟨_,rfl,?_⟩;have xI:=Aside0.mk (aQ (by repeat (first|(with_reducible first|exact HB.out|apply ay|apply aj|apply av)|exact HB.out)) hb);clear HB;have HB:=xI;clear xI;(try clear hb);(try clear hb2);(try clear hk);(try clear hi))|((with_reducible refine bK (f:=33) rfl ?_);refine dH (some 8) rfl rfl Tryd.func33 (by kernel_rfl) rfl #[] rfl (by (try simp only [List.map_toArray,List.map_cons,List.map_nil]);first|done|rfl|(simp only [List.length_drop,List.length_take];rfl)|(simp (disch:=first|omega|(simp at *;omega)) only [dh,bY,dY];rfl)) ?_;(with_reducible refine (dL.calls k  true _ A2.out).mono ?_);rintro e xZ ⟨rfl,hb⟩;refine ⟨_,rfl,?_⟩;have xI:=Aside0.mk (aQ (by repeat (first|(with_reducible first|exact HB.out|apply ay|apply aj|apply av)|exact HB.out)) hb);clear HB;have HB:=xI;clear xI;(try clear hb);(try clear hb2);(try clear hk);(try clear hi))|(go_at_call 34;(with_reducible refine (dF.calls k  false _ A4.out).mono ?_);rintro e yc ⟨rfl,hb⟩;have xI:=Aside0.mk (aQ (by repeat (first|(with_reducible first|exact HB.out|apply ay|apply aj|apply av)|exact HB.out)) hb);clear HB;have HB:=xI;clear xI;(try clear hb);(try clear hb2);(try clear hk);(try clear hi)))
   go_ret
   exact ⟨by first|rfl|(simp [aZ,bf] <;> rfl)|(simp [*,aZ,bf] <;> rfl),by repeat (first|(with_reducible first|exact HB.out|apply ay|apply aj|apply av)|exact HB.out)⟩
 ·replace c3:=Bool.eq_false_iff.mpr c3
  subst c3
  have H1 : (some false) = some r:=by rw [if_neg (show ¬ (false = true) by decide)] at H;exact H
  clear H
  have H:=H1
  clear H1
  obtain rfl:=Option.some.inj H
  go_enter Tryd.func10,Tryd.ntmps10
  go_wp2_with (first|((with_reducible refine bK (f:=13) rfl ?_);refine dH (some 5) rfl rfl Tryd.func13 (by kernel_rfl) rfl #[.agg #[.int .u32 1,.slice none 0 0]] rfl (by (try simp only [List.map_toArray,List.map_cons,List.map_nil]);first|done|rfl|(simp only [List.length_drop,List.length_take];rfl)|(simp (disch:=first|omega|(simp at *;omega)) only [dh,bY,dY];rfl)) ?_;(refine (dB.calls k 1 _ _ ([] : List (S66)) xO xJ _ ?xL ?xM A1.out).mono ?_);(case xL=>exact Kd.kC _ _);(case xM=>exact Nat.le_refl _);rintro e w16 ⟨rfl,hb⟩;refine ⟨_,rfl,?_⟩;have xI:=Aside0.mk (aQ (by repeat (first|(with_reducible first|exact HB.out|apply ay|apply aj|apply av)|exact HB.out)) hb);clear HB;have HB:=xI;clear xI;(try clear hb);(try clear hb2);(try clear hk);(try clear hi))|((with_reducible refine bK (f:=33) rfl ?_);refine dH (some 8) rfl rfl Tryd.func33 (by kernel_rfl) rfl #[] rfl (by (try simp only [List.map_toArray,List.map_cons,List.map_nil]);first|done|rfl|(simp only [List.length_drop,List.length_take];rfl)|(simp (disch:=first|omega|(simp at *;omega)) only [dh,bY,dY];rfl)) ?_;(with_reducible refine (dL.calls k  false _ A2.out).mono ?_);rintro e yg ⟨rfl,hb⟩;refine ⟨_,rfl,?_⟩;have xI:=Aside0.mk (aQ (by repeat (first|(with_reducible first|exact HB.out|apply ay|apply aj|apply av)|exact HB.out)) hb);clear HB;have HB:=xI;clear xI;(try clear hb);(try clear hb2);(try clear hk);(try clear hi)))
  go_ret
  exact ⟨by first|rfl|(simp [aZ,bf] <;> rfl)|(simp [*,aZ,bf] <;> rfl),by repeat (first|(with_reducible first|exact HB.out|apply ay|apply aj|apply av)|exact HB.out)⟩
end Go.Proofs.YtpmbdcljphpcnaaDoor.GC2
