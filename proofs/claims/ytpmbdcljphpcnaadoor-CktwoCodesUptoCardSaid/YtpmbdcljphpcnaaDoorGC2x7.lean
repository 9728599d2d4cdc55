/- Written by this session's own program (wip/gen.py) out of the translation: plain Lean functions of the Go functions, and proofs that the calls come to their answers. No conditions beside those in the statements. -/
import Derived.Test.YtpmbdcljphpcnaaDoorGC2x0
import Derived.Test.YtpmbdcljphpcnaaDoorGC2x4
import Derived.Test.YtpmbdcljphpcnaaDoorGC2Encode
namespace Go.Proofs.YtpmbdcljphpcnaaDoor.GC2
open Go.RowKit Go.Proofs.YtpmbdcljphpcnaaDoorW.PrintWords Go.Proofs.YtpmbdcljphpcnaaDoorW.PrintLast Go.Proofs.YtpmbdcljphpcnaaDoorW.PrintMore
attribute [local go_sem] eY eZ fJ fK eP eT fq fu
set_option linter.unusedVariables false
set_option linter.unusedSimpArgs false
def cK.f (k : Nat)  : Option (Bool):=(bS.f k 1 ([] : List (S98))).bind fun xI=>((dM.f k).bind fun xJ=>(if xJ = true then (if xI.2 = 0 then (some (xI.1.toList == ([0,0,0,0,0,0,0,1,0,0] : List UInt8))) else (some false)) else (some false)))
theorem cK.mono : ∀ k,LeO (cK.f k ) (cK.f (k + 1) ):=by
 intro  k
 unfold cK.f
 repeat' first
   | (with_reducible exact dM.mono _)
   | (with_reducible exact bS.mono _ _ _)
   | (with_reducible exact LeO.refl _)
   | (with_reducible exact LeO.none _)
   | (with_reducible refine LeO.ite ?_ ?_)
   | (with_reducible refine LeO.bind ?_ (fun _=>?_))
   | exact dM.mono _
   | exact bS.mono _ _ _
   | exact LeO.none _
   | refine LeO.ite ?_ ?_
   | refine LeO.bind ?_ (fun _=>?_)
set_option maxHeartbeats 8000000 in
set_option maxRecDepth 100000 in
theorem cK.calls (k : Nat)  (r : Bool) (w : World) (h : cK.f k  = some r) :
  Calls Tryd.prog 23 #[] w fun e w'=>e = .returned (.bool r) ∧ Below w.heap.size w w':=by
 have xR:=Tryd.underlying49
 have HB:=Aside0.mk (Below.refl w.heap.size w)
 have H : ((bS.f k 1 ([] : List (S98))).bind fun xI=>((dM.f k).bind fun xJ=>(if xJ = true then (if xI.2 = 0 then (some (xI.1.toList == ([0,0,0,0,0,0,0,1,0,0] : List UInt8))) else (some false)) else (some false)))) = some r:=h
 clear h
 replace H:=Option.bind_eq_some_iff.mp H
 obtain ⟨⟨xO,t148⟩,xP,H⟩:=H
 replace H : ((dM.f k).bind fun xJ=>(if xJ = true then (if t148 = 0 then (some (xO.toList == ([0,0,0,0,0,0,0,1,0,0] : List UInt8))) else (some false)) else (some false))) = some r:=H
 have A1:=Aside0.mk xP
 clear xP
 replace H:=Option.bind_eq_some_iff.mp H
 obtain ⟨xJ,xQ,H⟩:=H
 replace H : (if xJ = true then (if t148 = 0 then (some (xO.toList == ([0,0,0,0,0,0,0,1,0,0] : List UInt8))) else (some false)) else (some false)) = some r:=H
 have A2:=Aside0.mk xQ
 clear xQ
 by_cases c3 : xJ = true
 ·subst c3
  have H1 : (if t148 = 0 then (some (xO.toList == ([0,0,0,0,0,0,0,1,0,0] : List UInt8))) else (some false)) = some r:=by rw [if_pos rfl] at H;exact H
  clear H
  have H:=H1
  clear H1
  by_cases c4 : t148 = 0
  ·rw [if_pos c4] at H
   have c4b0 : (t148 == 0) = true:=beq_iff_eq.mpr c4
   have c4b1 : (t148 != 0) = false:=bne_eq_false_iff_eq.mpr c4
   clear c4
   obtain rfl:=Option.some.inj H
   go_enter Tryd.func23,Tryd.ntmps23
   go_wp2_with (first|((with_reducible refine bK (f:=26) rfl ?_);refine dH (some 5) rfl rfl Tryd.func26 (by kernel_rfl) rfl #[.agg #[.int .u64 1,.slice none 0 0]] rfl (by (try simp only [List.map_toArray,List.map_cons,List.map_nil]);first|done|rfl|(simp only [List.length_drop,List.length_take];rfl)|(simp (disch:=first|omega|(simp at *;omega)) only [dh,bY,dY];rfl)) ?_;(refine (bS.calls k 1 _ _ ([] : List (S98)) xO t148 _ ?xK ?xL A1.out).mono ?_);(case xK=>exact Kd.kC _ _);(case xL=>exact Nat.le_refl _);rintro e w5 ⟨rfl,hb⟩;refine ⟨_,rfl,?_⟩;have xM:=Aside0.mk (aQ (by repeat (first|(with_reducible first|exact HB.out|apply ay|apply aj|apply av)|exact HB.out)) hb);clear HB;have HB:=xM;clear xM;(try clear hb);(try clear hb2);(try clear hk);(try clear hi))|((with_reducible refine bK (f:=10) rfl ?_);refine dH (some 8) rfl rfl Tryd.func10 (by kernel_rfl) rfl #[] rfl (by (try simp only [List.map_toArray,List.map_cons,List.map_nil]);first|done|rfl|(simp only [List.length_drop,List.length_take];rfl)|(simp (disch:=first|omega|(simp at *;omega)) only [dh,bY,dY];rfl)) ?_;(with_reducible refine (dM.calls k  true _ A2.out).mono ?_);rintro e w6 ⟨rfl,hb⟩;refine ⟨_,rfl,?_⟩;have xM:=Aside0.mk (aQ (by repeat (first|(with_reducible first|exact HB.out|apply ay|apply aj|apply av)|exact HB.out)) hb);clear HB;have HB:=xM;clear xM;(try clear hb);(try clear hb2);(try clear hk);(try clear hi)))
   go_ret
   exact ⟨by first|rfl|(simp [aZ,bf] <;> rfl)|(simp [*,aZ,bf] <;> rfl),by repeat (first|(with_reducible first|exact HB.out|apply ay|apply aj|apply av)|exact HB.out)⟩
  ·rw [if_neg c4] at H
   have c4b0 : (t148 == 0) = false:=beq_eq_false_iff_ne.mpr c4
   have c4b1 : (t148 != 0) = true:=bne_iff_ne.mpr c4
   obtain rfl:=Option.some.inj H
   go_enter Tryd.func23,Tryd.ntmps23
   go_wp2_with (first|((with_reducible refine bK (f:=26) rfl ?_);refine dH (some 5) rfl rfl Tryd.func26 (by kernel_rfl) rfl #[.agg #[.int .u64 1,.slice none 0 0]] rfl (by (try simp only [List.map_toArray,List.map_cons,List.map_nil]);first|done|rfl|(simp only [List.length_drop,List.length_take];rfl)|(simp (disch:=first|omega|(simp at *;omega)) only [dh,bY,dY];rfl)) ?_;(refine (bS.calls k 1 _ _ ([] : List (S98)) xO t148 _ ?xK ?xL A1.out).mono ?_);(case xK=>exact Kd.kC _ _);(case xL=>exact Nat.le_refl _);rintro e w7 ⟨rfl,hb⟩;refine ⟨_,rfl,?_⟩;have xM:=Aside0.mk (aQ (by repeat (first|(with_reducible first|exact HB.out|apply ay|apply aj|apply av)|exact HB.out)) hb);clear HB;have HB:=xM;clear xM;(try clear hb);(try clear hb2);(try clear hk);(try clear hi))|((with_reducible refine bK (f:=10) rfl ?_);refine dH (some 8) rfl rfl Tryd.func10 (by kernel_rfl) rfl #[] rfl (by (try simp only [List.map_toArray,List.map_cons,List.map_nil]);first|done|rfl|(simp only [List.length_drop,List.length_take];rfl)|(simp (disch:=first|omega|(simp at *;omega)) only [dh,bY,dY];rfl)) ?_;(with_reducible refine (dM.calls k  true _ A2.out).mono ?_);rintro e w8 ⟨rfl,hb⟩;refine ⟨_,rfl,?_⟩;have xM:=Aside0.mk (aQ (by repeat (first|(with_reducible first|exact HB.out|apply ay|apply aj|apply av)|exact HB.out)) hb);clear HB;have HB:=xM;clear xM;(try clear hb);(try clear hb2);(try clear hk);(try clear hi)))
   go_ret
   exact ⟨by first|rfl|(simp [aZ,bf] <;> rfl)|(simp [*,aZ,bf] <;> rfl),by repeat (first|(with_reducible first|exact HB.out|apply ay|apply aj|apply av)|exact HB.out)⟩
 ·replace c3:=Bool.eq_false_iff.mpr c3
  subst c3
  have H1 : (some false) = some r:=by rw [if_neg (show ¬ (false = true) by decide)] at H;exact H
  clear H
  have H:=H1
  clear H1
  obtain rfl:=Option.some.inj H
  go_enter Tryd.func23,Tryd.ntmps23
  go_wp2_with (first|((with_reducible refine bK (f:=26) rfl ?_);refine dH (some 5) rfl rfl Tryd.func26 (by kernel_rfl) rfl #[.agg #[.int .u64 1,.slice none 0 0]] rfl (by (try simp only [List.map_toArray,List.map_cons,List.map_nil]);first|done|rfl|(simp only [List.length_drop,List.length_take];rfl)|(simp (disch:=first|omega|(simp at *;omega)) only [dh,bY,dY];rfl)) ?_;(refine (bS.calls k 1 _ _ ([] : List (S98)) xO t148 _ ?xK ?xL A1.out).mono ?_);(case xK=>exact Kd.kC _ _);(case xL=>exact Nat.le_refl _);rintro e w9 ⟨rfl,hb⟩;refine ⟨_,rfl,?_⟩;have xM:=Aside0.mk (aQ (by repeat (first|(with_reducible first|exact HB.out|apply ay|apply aj|apply av)|exact HB.out)) hb);clear HB;have HB:=xM;clear xM;(try clear hb);(try clear hb2);(try clear hk);(try clear hi))|((with_reducible refine bK (f:=10) rfl ?_);refine dH (some 8) rfl rfl Tryd.func10 (by kernel_rfl) rfl #[] rfl (by (try simp only [List.map_toArray,List.map_cons,List.map_nil]);first|done|rfl|(simp only [List.length_drop,List.length_take];rfl)|(simp (disch:=first|omega|(simp at *;omega)) only [dh,bY,dY];rfl)) ?_;(with_reducible refine (dM.calls k  false _ A2.out).mono ?_);rintro e xS ⟨rfl,hb⟩;refine ⟨_,rfl,?_⟩;have xM:=Aside0.mk (aQ (by repeat (first|(with_reducible first|exact HB.out|apply ay|apply aj|apply av)|exact HB.out)) hb);clear HB;have HB:=xM;clear xM;(try clear hb);(try clear hb2);(try clear hk);(try clear hi)))
  go_ret
  exact ⟨by first|rfl|(simp [aZ,bf] <;> rfl)|(simp [*,aZ,bf] <;> rfl),by repeat (first|(with_reducible first|exact HB.out|apply ay|apply aj|apply av)|exact HB.out)⟩
end Go.Proofs.YtpmbdcljphpcnaaDoor.GC2
