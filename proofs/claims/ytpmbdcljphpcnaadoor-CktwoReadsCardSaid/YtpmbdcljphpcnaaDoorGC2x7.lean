/- Written by this session's own program (wip/gen.py) out of the translation: plain Lean functions of the Go functions, and proofs that the calls come to their answers. No conditions beside those in the statements. -/
import Derived.Test.YtpmbdcljphpcnaaDoorGC2x0
import Derived.Test.YtpmbdcljphpcnaaDoorGC2x4
import Derived.Test.YtpmbdcljphpcnaaDoorGC2Encode
namespace Go.Proofs.YtpmbdcljphpcnaaDoor.GC2
open Go.RowKit Go.Proofs.YtpmbdcljphpcnaaDoorW.PrintWords Go.Proofs.YtpmbdcljphpcnaaDoorW.PrintLast Go.Proofs.YtpmbdcljphpcnaaDoorW.PrintMore
attribute [local go_sem] fO fP gI gJ fF fG fQ fT
set_option linter.unusedVariables false
set_option linter.unusedSimpArgs false
def dD.f (k : Nat)  : Option (Bool):=(dz.f k 1 ([] : List (S98))).bind fun zL=>((dW.f k).bind fun zM=>(if zM = true then (if zL.2 = 0 then (some (zL.1.toList == ([0,0,0,0,0,0,0,1,0,0] : List UInt8))) else (some false)) else (some false)))
theorem dD.mono : ∀ k,LeO (dD.f k ) (dD.f (k + 1) ):=by
 intro  k
 unfold dD.f
 repeat' first
   | (with_reducible exact dW.mono _)
   | (with_reducible exact dz.mono _ _ _)
   | (with_reducible exact LeO.refl _)
   | (with_reducible exact LeO.none _)
   | (with_reducible refine LeO.ite ?_ ?_)
   | (with_reducible refine LeO.bind ?_ (fun _=>?_))
   | exact dW.mono _
   | exact dz.mono _ _ _
   | exact LeO.none _
   | refine LeO.ite ?_ ?_
   | refine LeO.bind ?_ (fun _=>?_)
set_option maxHeartbeats 8000000 in
set_option maxRecDepth 100000 in
theorem dD.calls (k : Nat)  (r : Bool) (w : World) (h : dD.f k  = some r) :
  Calls Tryd.prog 23 #[] w fun e w'=>e = .returned (.bool r) ∧ Below w.heap.size w w':=by
 have zT:=Tryd.underlying49
 have HB:=Aside0.mk (Below.refl w.heap.size w)
 have H : ((dz.f k 1 ([] : List (S98))).bind fun zL=>((dW.f k).bind fun zM=>(if zM = true then (if zL.2 = 0 then (some (zL.1.toList == ([0,0,0,0,0,0,0,1,0,0] : List UInt8))) else (some false)) else (some false)))) = some r:=h
 clear h
 replace H:=Option.bind_eq_some_iff.mp H
 obtain ⟨⟨zQ,t143⟩,zR,H⟩:=H
 replace H : ((dW.f k).bind fun zM=>(if zM = true then (if t143 = 0 then (some (zQ.toList == ([0,0,0,0,0,0,0,1,0,0] : List UInt8))) else (some false)) else (some false))) = some r:=H
 have A1:=Aside0.mk zR
 clear zR
 replace H:=Option.bind_eq_some_iff.mp H
 obtain ⟨zM,zS,H⟩:=H
 replace H : (if zM = true then (if t143 = 0 then (some (zQ.toList == ([0,0,0,0,0,0,0,1,0,0] : List UInt8))) else (some false)) else (some false)) = some r:=H
 have A2:=Aside0.mk zS
 clear zS
 by_cases c3 : zM = true
 ·subst c3
  have H1 : (if t143 = 0 then (some (zQ.toList == ([0,0,0,0,0,0,0,1,0,0] : List UInt8))) else (some false)) = some r:=by rw [if_pos rfl] at H;exact H
  clear H
  have H:=H1
  clear H1
  by_cases c4 : t143 = 0
  ·rw [if_pos c4] at H
   have c4b0 : (t143 == 0) = true:=beq_iff_eq.mpr c4
   have c4b1 : (t143 != 0) = false:=bne_eq_false_iff_eq.mpr c4
   clear c4
   obtain rfl:=Option.some.inj H
   go_enter Tryd.func23,Tryd.ntmps23
   go_wp2_with (first|((with_reducible refine bA (f:=26) rfl ?_);refine cO (some 5) rfl rfl Tryd.func26 (by kernel_rfl) rfl #[.agg #[.int .u64 1,.slice none 0 0]] rfl (by (try simp only [List.map_toArray,List.map_cons,List.map_nil]);first|done|rfl|(simp only [List.length_drop,List.length_take];rfl)|(simp (disch:=first|omega|(simp at *;omega)) only [bY,bJ,dF];rfl)) ?_;(refine (dz.calls k 1 _ _ ([] : List (S98)) zQ t143 _ ?zN ?zO A1.out).mono ?_);(case zN=>exact Kd.lT _ _);(case zO=>exact Nat.le_refl _);rintro e w5 ⟨rfl,hb⟩;refine ⟨_,rfl,?_⟩;have zP:=Aside0.mk (aU (by repeat (first|(with_reducible first|exact HB.out|apply aD|apply ak|apply aC)|exact HB.out)) hb);clear HB;have HB:=zP;clear zP;(try clear hb);(try clear hb2);(try clear hk);(try clear hi))|((with_reducible refine bA (f:=10) rfl ?_);refine cO (some 8) rfl rfl Tryd.func10 (by kernel_rfl) rfl #[] rfl (by (try simp only [List.map_toArray,List.map_cons,List.map_nil]);first|done|rfl|(simp only [List.length_drop,List.length_take];rfl)|(simp (disch:=first|omega|(simp at *;omega)) only [bY,bJ,dF];rfl)) ?_;(with_reducible refine (dW.calls k  true _ A2.out).mono ?_);rintro e w6 ⟨rfl,hb⟩;refine ⟨_,rfl,?_⟩;have zP:=Aside0.mk (aU (by repeat (first|(with_reducible first|exact HB.out|apply aD|apply ak|apply aC)|exact HB.out)) hb);clear HB;have HB:=zP;clear zP;(try clear hb);(try clear hb2);(try clear hk);(try clear hi)))
   go_ret
   exact ⟨by first|rfl|(simp [aY,aZ] <;> rfl)|(simp [*,aY,aZ] <;> rfl),by repeat (first|(with_reducible first|exact HB.out|apply aD|apply ak|apply aC)|exact HB.out)⟩
  ·rw [if_neg c4] at H
   have c4b0 : (t143 == 0) = false:=beq_eq_false_iff_ne.mpr c4
   have c4b1 : (t143 != 0) = true:=bne_iff_ne.mpr c4
   obtain rfl:=Option.some.inj H
   go_enter Tryd.func23,Tryd.ntmps23
   go_wp2_with (first|((with_reducible refine bA (f:=26) rfl ?_);refine cO (some 5) rfl rfl Tryd.func26 (by kernel_rfl) rfl #[.agg #[.int .u64 1,.slice none 0 0]] rfl (by (try simp only [List.map_toArray,List.map_cons,List.map_nil]);first|done|rfl|(simp only [List.length_drop,List.length_take];rfl)|(simp (disch:=first|omega|(simp at *;omega)) only [bY,bJ,dF];rfl)) ?_;(refine (dz.calls k 1 _ _ ([] : List (S98)) zQ t143 _ ?zN ?zO A1.out).mono ?_);(case zN=>exact Kd.lT _ _);(case zO=>exact Nat.le_refl _);rintro e w7 ⟨rfl,hb⟩;refine ⟨_,rfl,?_⟩;have zP:=Aside0.mk (aU (by repeat (first|(with_reducible first|exact HB.out|apply aD|apply ak|apply aC)|exact HB.out)) hb);clear HB;have HB:=zP;clear zP;(try clear hb);(try clear hb2);(try clear hk);(try clear hi))|((with_reducible refine bA (f:=10) rfl ?_);refine cO (some 8) rfl rfl Tryd.func10 (by kernel_rfl) rfl #[] rfl (by (try simp only [List.map_toArray,List.map_cons,List.map_nil]);first|done|rfl|(simp only [List.length_drop,List.length_take];rfl)|(simp (disch:=first|omega|(simp at *;omega)) only [bY,bJ,dF];rfl)) ?_;(with_reducible refine (dW.calls k  true _ A2.out).mono ?_);rintro e w8 ⟨rfl,hb⟩;refine ⟨_,rfl,?_⟩;have zP:=Aside0.mk (aU (by repeat (first|(with_reducible first|exact HB.out|apply aD|apply ak|apply aC)|exact HB.out)) hb);clear HB;have HB:=zP;clear zP;(try clear hb);(try clear hb2);(try clear hk);(try clear hi)))
   go_ret
   exact ⟨by first|rfl|(simp [aY,aZ] <;> rfl)|(simp [*,aY,aZ] <;> rfl),by repeat (first|(with_reducible first|exact HB.out|apply aD|apply ak|apply aC)|exact HB.out)⟩
 ·replace c3:=Bool.eq_false_iff.mpr c3
  subst c3
  have H1 : (some false) = some r:=by rw [if_neg (show ¬ (false = true) by decide)] at H;exact H
  clear H
  have H:=H1
  clear H1
  obtain rfl:=Option.some.inj H
  go_enter Tryd.func23,Tryd.ntmps23
  go_wp2_with (first|((with_reducible refine bA (f:=26) rfl ?_);refine cO (some 5) rfl rfl Tryd.func26 (by kernel_rfl) rfl #[.agg #[.int .u64 1,.slice none 0 0]] rfl (by (try simp only [List.map_toArray,List.map_cons,List.map_nil]);first|done|rfl|(simp only [List.length_drop,List.length_take];rfl)|(simp (disch:=first|omega|(simp at *;omega)) only [bY,bJ,dF];rfl)) ?_;(refine (dz.calls k 1 _ _ ([] : List (S98)) zQ t143 _ ?zN ?zO A1.out).mono ?_);(case zN=>exact Kd.lT _ _);(case zO=>exact Nat.le_refl _);rintro e w9 ⟨rfl,hb⟩;refine ⟨_,rfl,?_⟩;have zP:=Aside0.mk (aU (by repeat (first|(with_reducible first|exact HB.out|apply aD|apply ak|apply aC)|exact HB.out)) hb);clear HB;have HB:=zP;clear zP;(try clear hb);(try clear hb2);(try clear hk);(try clear hi))|((with_reducible refine bA (f:=10) rfl ?_);refine cO (some 8) rfl rfl Tryd.func10 (by kernel_rfl) rfl #[] rfl (by (try simp only [List.map_toArray,List.map_cons,List.map_nil]);first|done|rfl|(simp only [List.length_drop,List.length_take];rfl)|(simp (disch:=first|omega|(simp at *;omega)) only [bY,bJ,dF];rfl)) ?_;(with_reducible refine (dW.calls k  false _ A2.out).mono ?_);rintro e zU ⟨rfl,hb⟩;refine ⟨_,rfl,?_⟩;have zP:=Aside0.mk (aU (by repeat (first|(with_reducible first|exact HB.out|apply aD|apply ak|apply aC)|exact HB.out)) hb);clear HB;have HB:=zP;clear zP;(try clear hb);(try clear hb2);(try clear hk);(try clear hi)))
  go_ret
  exact ⟨by first|rfl|(simp [aY,aZ] <;> rfl)|(simp [*,aY,aZ] <;> rfl),by repeat (first|(with_reducible first|exact HB.out|apply aD|apply ak|apply aC)|exact HB.out)⟩
end Go.Proofs.YtpmbdcljphpcnaaDoor.GC2
