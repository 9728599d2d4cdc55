/- Written by this session's own program (wip/gen.py) out of the translation: plain Lean functions of the Go functions, and proofs that the calls come to their answers. No conditions beside those in the statements. -/
import Derived.Test.YtpmbdcljphpcnaaDoorGC2x0
import Derived.Test.YtpmbdcljphpcnaaDoorGC2x1
import Derived.Test.YtpmbdcljphpcnaaDoorGC2x3
import Derived.Test.YtpmbdcljphpcnaaDoorGC2Enc0
namespace Go.Proofs.YtpmbdcljphpcnaaDoor.GC2
open Go.RowKit Go.Proofs.YtpmbdcljphpcnaaDoorW.PrintWords Go.Proofs.YtpmbdcljphpcnaaDoorW.PrintLast Go.Proofs.YtpmbdcljphpcnaaDoorW.PrintMore
attribute [local go_sem] fO fP gI gJ fF fG fQ fT
set_option linter.unusedVariables false
set_option linter.unusedSimpArgs false
def dW.f (k : Nat)  : Option (Bool):=(dN.f k 1 ([] : List (S66))).bind fun zR=>((dV.f k).bind fun zS=>(if zS = true then ((dP.f k).bind fun zN=>(if zN = true then (if zR.2 = 0 then (some (zR.1.toList == ([0,0,0,1,0,0] : List UInt8))) else (some false)) else (some false))) else (some false)))
theorem dW.mono : ∀ k,LeO (dW.f k ) (dW.f (k + 1) ):=by
 intro  k
 unfold dW.f
 repeat' first
   | (with_reducible exact dV.mono _)
   | (with_reducible exact dP.mono _)
   | (with_reducible exact dN.mono _ _ _)
   | (with_reducible exact LeO.refl _)
   | (with_reducible exact LeO.none _)
   | (with_reducible refine LeO.ite ?_ ?_)
   | (with_reducible refine LeO.bind ?_ (fun _=>?_))
   | exact dV.mono _
   | exact dP.mono _
   | exact dN.mono _ _ _
   | exact LeO.none _
   | refine LeO.ite ?_ ?_
   | refine LeO.bind ?_ (fun _=>?_)
set_option maxHeartbeats 8000000 in
set_option maxRecDepth 100000 in
theorem dW.calls (k : Nat)  (r : Bool) (w : World) (h : dW.f k  = some r) :
  Calls Tryd.prog 10 #[] w fun e w'=>e = .returned (.bool r) ∧ Below w.heap.size w w':=by
 have zW:=Tryd.underlying25
 have HB:=Aside0.mk (Below.refl w.heap.size w)
 have H : ((dN.f k 1 ([] : List (S66))).bind fun zR=>((dV.f k).bind fun zS=>(if zS = true then ((dP.f k).bind fun zN=>(if zN = true then (if zR.2 = 0 then (some (zR.1.toList == ([0,0,0,1,0,0] : List UInt8))) else (some false)) else (some false))) else (some false)))) = some r:=h
 clear h
 replace H:=Option.bind_eq_some_iff.mp H
 obtain ⟨⟨zQ,zM⟩,zT,H⟩:=H
 replace H : ((dV.f k).bind fun zS=>(if zS = true then ((dP.f k).bind fun zN=>(if zN = true then (if zM = 0 then (some (zQ.toList == ([0,0,0,1,0,0] : List UInt8))) else (some false)) else (some false))) else (some false))) = some r:=H
 have A1:=Aside0.mk zT
 clear zT
 replace H:=Option.bind_eq_some_iff.mp H
 obtain ⟨zS,zU,H⟩:=H
 replace H : (if zS = true then ((dP.f k).bind fun zN=>(if zN = true then (if zM = 0 then (some (zQ.toList == ([0,0,0,1,0,0] : List UInt8))) else (some false)) else (some false))) else (some false)) = some r:=H
 have A2:=Aside0.mk zU
 clear zU
 by_cases c3 : zS = true
 ·subst c3
  have H1 : ((dP.f k).bind fun zN=>(if zN = true then (if zM = 0 then (some (zQ.toList == ([0,0,0,1,0,0] : List UInt8))) else (some false)) else (some false))) = some r:=by rw [if_pos rfl] at H;exact H
  clear H
  have H:=H1
  clear H1
  replace H:=Option.bind_eq_some_iff.mp H
  obtain ⟨zN,zV,H⟩:=H
  replace H : (if zN = true then (if zM = 0 then (some (zQ.toList == ([0,0,0,1,0,0] : List UInt8))) else (some false)) else (some false)) = some r:=H
  have A4:=Aside0.mk zV
  clear zV
  by_cases c5 : zN = true
  ·subst c5
   have H1 : (if zM = 0 then (some (zQ.toList == ([0,0,0,1,0,0] : List UInt8))) else (some false)) = some r:=by rw [if_pos rfl] at H;exact H
   clear H
   have H:=H1
   clear H1
   by_cases c6 : zM = 0
   ·rw [if_pos c6] at H
    have c6b0 : (zM == 0) = true:=beq_iff_eq.mpr c6
    have c6b1 : (zM != 0) = false:=bne_eq_false_iff_eq.mpr c6
    clear c6
    obtain rfl:=Option.some.inj H
    go_enter Tryd.func10,Tryd.ntmps10
    go_wp2_with (first|((with_reducible refine bA (f:=13) rfl ?_);refine cO (some 5) rfl rfl Tryd.func13 (by kernel_rfl) rfl #[.agg #[.int .u32 1,.slice none 0 0]] rfl (by (try simp only [List.map_toArray,List.map_cons,List.map_nil]);first|done|rfl|(simp only [List.length_drop,List.length_take];rfl)|(simp (disch:=first|omega|(simp at *;omega)) only [bY,bJ,dF];rfl)) ?_;(refine (dN.calls k 1 _ _ ([] : List (S66)) zQ zM _ ?zO ?zP A1.out).mono ?_);(case zO=>exact Kd.lT _ _);(case zP=>exact Nat.le_refl _);rintro e w7 ⟨rfl,hb⟩;refine ⟨_,rfl,?_⟩;have zL:=Aside0.mk (aU (by repeat (first|(with_reducible first|exact HB.out|apply aD|apply ak|apply aC)|exact HB.out)) hb);clear HB;have HB:=zL;clear zL;(try clear hb);(try clear hb2);(try clear hk);(try clear hi))|((with_reducible refine bA (f:=33) rfl ?_);refine cO (some 8) rfl rfl Tryd.func33 (by kernel_rfl) rfl #[] rfl (by (try simp only [List.map_toArray,List.map_cons,List.map_nil]);first|done|rfl|(simp only [List.length_drop,List.length_take];rfl)|(simp (disch:=first|omega|(simp at *;omega)) only [bY,bJ,dF];rfl)) ?_;(with_reducible refine (dV.calls k  true _ A2.out).mono ?_);rintro e w8 ⟨rfl,hb⟩;refine ⟨_,rfl,?_⟩;have zL:=Aside0.mk (aU (by repeat (first|(with_reducible first|exact HB.out|apply aD|apply ak|apply aC)|exact HB.out)) hb);clear HB;have HB:=zL;clear zL;(try clear hb);(try clear hb2);(try clear hk);(try clear hi))|(go_at_call 34;(with_reducible refine (dP.calls k  true _ A4.out).mono ?_);rintro e w9 ⟨rfl,hb⟩;have zL:=Aside0.mk (aU (by repeat (first|(with_reducible first|exact HB.out|apply aD|apply ak|apply aC)|exact HB.out)) hb);clear HB;have HB:=zL;clear zL;(try clear hb);(try clear hb2);(try clear hk);(try clear hi)))
    go_ret
    exact ⟨by first|rfl|(simp [aY,aZ] <;> rfl)|(simp [*,aY,aZ] <;> rfl),by repeat (first|(with_reducible first|exact HB.out|apply aD|apply ak|apply aC)|exact HB.out)⟩
   ·rw [if_neg c6] at H
    have c6b0 : (zM == 0) = false:=beq_eq_false_iff_ne.mpr c6
    have c6b1 : (zM != 0) = true:=bne_iff_ne.mpr c6
    obtain rfl:=Option.some.inj H
    go_enter Tryd.func10,Tryd.ntmps10
    go_wp2_with (first|((with_reducible refine bA (f:=13) rfl ?_);refine cO (some 5) rfl rfl Tryd.func13 (by kernel_rfl) rfl #[.agg #[.int .u32 1,.slice none 0 0]] rfl (by (try simp only [List.map_toArray,List.map_cons,List.map_nil]);first|done|rfl|(simp only [List.length_drop,List.length_take];rfl)|(simp (disch:=first|omega|(simp at *;omega)) only [bY,bJ,dF];rfl)) ?_;(refine (dN.calls k 1 _ _ ([] : List (S66)) zQ zM _ ?zO ?zP A1.out).mono ?_);(case zO=>exact Kd.lT _ _);(case zP=>exact Nat.le_refl _);rintro e zX ⟨rfl,hb⟩;refine ⟨_,rfl,?_⟩;have zL:=Aside0.mk (aU (by repeat (first|(with_reducible first|exact HB.out|apply aD|apply ak|apply aC)|exact HB.out)) hb);clear HB;have HB:=zL;clear zL;(try clear hb);(try clear hb2);(try clear hk);(try clear hi))|((with_reducible refine bA (f:=33) rfl ?_);refine cO (some 8) rfl rfl Tryd.func33 (by kernel_rfl) rfl #[] rfl (by (try simp only [List.map_toArray,List.map_cons,List.map_nil]);first|done|rfl|(simp only [List.length_drop,List.length_take];rfl)|(simp (disch:=first|omega|(simp at *;omega)) only [bY,bJ,dF];rfl)) ?_;(with_reducible refine (dV.calls k  true _ A2.out).mono ?_);rintro e zY ⟨rfl,hb⟩;refine ⟨_,rfl,?_⟩;have zL:=Aside0.mk (aU (by repeat (first|(with_reducible first|exact HB.out|apply aD|apply ak|apply aC)|exact HB.out)) hb);clear HB;have HB:=zL;clear zL;(try clear hb);(try clear hb2);(try clear hk);(try clear hi))|(go_at_call 34;(with_reducible refine (dP.calls k  true _ A4.out).mono ?_);rintro e zZ ⟨rfl,hb⟩;have zL:=Aside0.mk (aU (by repeat (first|(with_reducible first|exact HB.out|apply aD|apply ak|apply aC)|exact HB.out)) hb);clear HB;have HB:=zL;clear zL;(try clear hb);(try clear hb2);(try clear hk);(try clear hi)))
    go_ret
    exact ⟨by first|rfl|(simp [aY,aZ] <;> rfl)|(simp [*,aY,aZ] <;> rfl),by repeat (first|(with_reducible first|exact HB.out|apply aD|apply ak|apply aC)|exact HB.out)⟩
  ·replace c5:=Bool.eq_false_iff.mpr c5
   subst c5
   have H1 : (some false) = some r:=by rw [if_neg (show ¬ (false = true) by decide)] at H;exact H
   clear H
   have H:=H1
   clear H1
   obtain rfl:=Option.some.inj H
   go_enter Tryd.func10,Tryd.ntmps10
   go_wp2_with (first|((with_reducible refine bA (f:=13) rfl ?_);refine cO (some 5) rfl rfl Tryd.func13 (by kernel_rfl) rfl #[.agg #[.int .u32 1,.slice none 0 0]] rfl (by (try simp only [List.map_toArray,List.map_cons,List.map_nil]);first|done|rfl|(simp only [List.length_drop,List.length_take];rfl)|(simp (disch:=first|omega|(simp at *;omega)) only [bY,bJ,dF];rfl)) ?_;(refine (dN.calls k 1 _ _ ([] : List (S66)) zQ zM _ ?zO ?zP A1.out).mono ?_);(case zO=>exact Kd.lT _ _);(case zP=>exact Nat.le_refl _);rintro e z8 ⟨rfl,hb⟩;refine ⟨_,rfl,?_⟩;have zL:=Aside0.mk (aU (by repeat (first|(with_reducible first|exact HB.out|apply aD|apply ak|apply aC)|exact HB.out)) hb);clear HB;have HB:=zL;clear zL;(try clear hb);(try clear hb2);(try clear hk);(try clear hi))|((with_reducible refine bA (f:=33) rfl ?_);refine cO (some 8) rfl rfl Tryd.func33 (by kernel_rfl) rfl #[] rfl (by (try simp only [List.map_toArray,List.map_cons,List.map_nil]);first|done|rfl|(simp only [List.length_drop,List.length_take];rfl)|(simp (disch:=first|omega|(simp at *;omega)) only [bY,bJ,dF];rfl)) ?_;(with_reducible refine (dV.calls k  true _ A2.out).mono ?_);rintro e Aa ⟨rfl,hb⟩;refine ⟨_,rfl,?_⟩;have zL:=Aside0.mk (aU (by repeat (first|(with_reducible first|exact HB.out|apply aD|apply ak|apply aC)|exact HB.out)) hb);clear HB;have HB:=zL;clear zL;(try clear hb);(try clear hb2);(try clear hk);(try clear hi))|(go_at_call 34;(with_reducible refine (dP.calls k  false _ A4.out).mono ?_);rintro e Ab ⟨rfl,hb⟩;have zL:=Aside0.mk (aU (by repeat (first|(with_reducible first|exact HB.out|apply aD|apply ak|apply aC)|exact HB.out)) hb);clear HB;have HB:=zL;clear zL;(try clear hb);(try clear hb2);(try clear hk);(try clear hi)))
   go_ret
   exact ⟨by first|rfl|(simp [aY,aZ] <;> rfl)|(simp [*,aY,aZ] <;> rfl),by repeat (first|(with_reducible first|exact HB.out|apply aD|apply ak|apply aC)|exact HB.out)⟩
 ·replace c3:=Bool.eq_false_iff.mpr c3
  subst c3
  have H1 : (some false) = some r:=by rw [if_neg (show ¬ (false = true) by decide)] at H;exact H
  clear H
  have H:=H1
  clear H1
  obtain rfl:=Option.some.inj H
  go_enter Tryd.func10,Tryd.ntmps10
  go_wp2_with (first|((with_reducible refine bA (f:=13) rfl ?_);refine cO (some 5) rfl rfl Tryd.func13 (by kernel_rfl) rfl #[.agg #[.int .u32 1,.slice none 0 0]] rfl (by (try simp only [List.map_toArray,List.map_cons,List.map_nil]);first|done|rfl|(simp only [List.length_drop,List.length_take];rfl)|(simp (disch:=first|omega|(simp at *;omega)) only [bY,bJ,dF];rfl)) ?_;(refine (dN.calls k 1 _ _ ([] : List (S66)) zQ zM _ ?zO ?zP A1.out).mono ?_);(case zO=>exact Kd.lT _ _);(case zP=>exact Nat.le_refl _);rintro e w16 ⟨rfl,hb⟩;refine ⟨_,rfl,?_⟩;have zL:=Aside0.mk (aU (by repeat (first|(with_reducible first|exact HB.out|apply aD|apply ak|apply aC)|exact HB.out)) hb);clear HB;have HB:=zL;clear zL;(try clear hb);(try clear hb2);(try clear hk);(try clear hi))|((with_reducible refine bA (f:=33) rfl ?_);refine cO (some 8) rfl rfl Tryd.func33 (by kernel_rfl) rfl #[] rfl (by (try simp only [List.map_toArray,List.map_cons,List.map_nil]);first|done|rfl|(simp only [List.length_drop,List.length_take];rfl)|(simp (disch:=first|omega|(simp at *;omega)) only [bY,bJ,dF];rfl)) ?_;(with_reducible refine (dV.calls k  false _ A2.out).mono ?_);rintro e Ac ⟨rfl,hb⟩;refine ⟨_,rfl,?_⟩;have zL:=Aside0.mk (aU (by repeat (first|(with_reducible first|exact HB.out|apply aD|apply ak|apply aC)|exact HB.out)) hb);clear HB;have HB:=zL;clear zL;(try clear hb);(try clear hb2);(try clear hk);(try clear hi)))
  go_ret
  exact ⟨by first|rfl|(simp [aY,aZ] <;> rfl)|(simp [*,aY,aZ] <;> rfl),by repeat (first|(with_reducible first|exact HB.out|apply aD|apply ak|apply aC)|exact HB.out)⟩
end Go.Proofs.YtpmbdcljphpcnaaDoor.GC2
