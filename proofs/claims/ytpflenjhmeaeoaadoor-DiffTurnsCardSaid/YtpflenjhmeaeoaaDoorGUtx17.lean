/- Written by this session's own program (wip/gen.py) out of the translation: plain Lean functions of the Go functions, and proofs that the calls come to their answers. No conditions beside those in the statements. -/
import Derived.Test.YtpflenjhmeaeoaaDoorCp
import Derived.Test.YtpflenjhmeaeoaaDoorGUtx0
import Derived.Test.YtpflenjhmeaeoaaDoorGUtx14
import Derived.Test.YtpflenjhmeaeoaaDoorGUtx16
import Derived.Test.YtpflenjhmeaeoaaDoorGUtEnc1
namespace Go.Proofs.YtpflenjhmeaeoaaDoor.GUt
open Go.RowKit Go.Proofs.YtpflenjhmeaeoaaDoorW.PrintWords Go.Proofs.YtpflenjhmeaeoaaDoorW.PrintLast Go.Proofs.YtpflenjhmeaeoaaDoorW.PrintMore
attribute [local go_sem] fC fD gu gD eP eT fE fF
set_option linter.unusedVariables false
set_option linter.unusedSimpArgs false
def dI.f (k : Nat)  : Option (Bool):=(dF.f k 1 ([] : List (S158))).bind fun Aw=>((dP.f k).bind fun Ay=>(if Ay = true then ((bT.f k).bind fun Ao=>(if Ao = true then (if Aw.2 = 0 then (some (Aw.1.toList == ([0,0,0,1,0,0] : List UInt8))) else (some false)) else (some false))) else (some false)))
theorem dI.mono : ∀ k,LeO (dI.f k ) (dI.f (k + 1) ):=by
 intro  k
 unfold dI.f
 repeat' first
   | (with_reducible exact dP.mono _)
   | (with_reducible exact bT.mono _)
   | (with_reducible exact dF.mono _ _ _)
   | (with_reducible exact LeO.refl _)
   | (with_reducible exact LeO.none _)
   | (with_reducible refine LeO.ite ?_ ?_)
   | (with_reducible refine LeO.bind ?_ (fun _=>?_))
   | exact dP.mono _
   | exact bT.mono _
   | exact dF.mono _ _ _
   | exact LeO.none _
   | refine LeO.ite ?_ ?_
   | refine LeO.bind ?_ (fun _=>?_)
set_option maxHeartbeats 8000000 in
set_option maxRecDepth 100000 in
theorem dI.calls (k : Nat)  (r : Bool) (w : World) (h : dI.f k  = some r) :
  Calls Tryd.prog 79 #[] w fun e w'=>e = .returned (.bool r) ∧ Below w.heap.size w w':=by
 have Az:=Tryd.underlying152
 have HB:=Aside0.mk (Below.refl w.heap.size w)
 have H : ((dF.f k 1 ([] : List (S158))).bind fun Aw=>((dP.f k).bind fun Ay=>(if Ay = true then ((bT.f k).bind fun Ao=>(if Ao = true then (if Aw.2 = 0 then (some (Aw.1.toList == ([0,0,0,1,0,0] : List UInt8))) else (some false)) else (some false))) else (some false)))) = some r:=h
 clear h
 replace H:=Option.bind_eq_some_iff.mp H
 obtain ⟨⟨Au,Am⟩,AA,H⟩:=H
 replace H : ((dP.f k).bind fun Ay=>(if Ay = true then ((bT.f k).bind fun Ao=>(if Ao = true then (if Am = 0 then (some (Au.toList == ([0,0,0,1,0,0] : List UInt8))) else (some false)) else (some false))) else (some false))) = some r:=H
 have A1:=Aside0.mk AA
 clear AA
 replace H:=Option.bind_eq_some_iff.mp H
 obtain ⟨Ay,AB,H⟩:=H
 replace H : (if Ay = true then ((bT.f k).bind fun Ao=>(if Ao = true then (if Am = 0 then (some (Au.toList == ([0,0,0,1,0,0] : List UInt8))) else (some false)) else (some false))) else (some false)) = some r:=H
 have A2:=Aside0.mk AB
 clear AB
 by_cases c3 : Ay = true
 ·subst c3
  have H1 : ((bT.f k).bind fun Ao=>(if Ao = true then (if Am = 0 then (some (Au.toList == ([0,0,0,1,0,0] : List UInt8))) else (some false)) else (some false))) = some r:=by rw [if_pos rfl] at H;exact H
  clear H
  have H:=H1
  clear H1
  replace H:=Option.bind_eq_some_iff.mp H
  obtain ⟨Ao,AJ,H⟩:=H
  replace H : (if Ao = true then (if Am = 0 then (some (Au.toList == ([0,0,0,1,0,0] : List UInt8))) else (some false)) else (some false)) = some r:=H
  have A4:=Aside0.mk AJ
  clear AJ
  by_cases c5 : Ao = true
  ·subst c5
   have H1 : (if Am = 0 then (some (Au.toList == ([0,0,0,1,0,0] : List UInt8))) else (some false)) = some r:=by rw [if_pos rfl] at H;exact H
   clear H
   have H:=H1
   clear H1
   by_cases c6 : Am = 0
   ·rw [if_pos c6] at H
    have c6b0 : (Am == 0) = true:=beq_iff_eq.mpr c6
    have c6b1 : (Am != 0) = false:=bne_eq_false_iff_eq.mpr c6
    clear c6
    obtain rfl:=Option.some.inj H
    go_enter Tryd.func79,Tryd.ntmps79
    go_wp2_with (first|((with_reducible refine bq (f:=98) rfl ?_);refine cO (some 5) rfl rfl Tryd.func98 (by kernel_rfl) rfl #[.agg #[.int .u32 1,.slice none 0 0]] rfl (by (try simp only [List.map_toArray,List.map_cons,List.map_nil]);first|done|rfl|(simp only [List.length_drop,List.length_take];rfl)|(simp (disch:=first|omega|(simp at *;omega)) only [cZ,bS,dQ];rfl)) ?_;(refine (dF.calls k 1 _ _ ([] : List (S158)) Au Am _ ?Ap ?Aq A1.out).mono ?_);(case Ap=>exact Kd.lU _ _);(case Aq=>exact Nat.le_refl _);rintro e w7 ⟨rfl,hb⟩;refine ⟨_,rfl,?_⟩;have Al:=Aside0.mk (aJ hb_ hb);clear HB;have HB:=Al;clear Al;(try clear hb);(try clear hb2);(try clear hk);(try clear hi))|((with_reducible refine bq (f:=99) rfl ?_);refine cO (some 8) rfl rfl Tryd.func99 (by kernel_rfl) rfl #[] rfl (by (try simp only [List.map_toArray,List.map_cons,List.map_nil]);first|done|rfl|(simp only [List.length_drop,List.length_take];rfl)|(simp (disch:=first|omega|(simp at *;omega)) only [cZ,bS,dQ];rfl)) ?_;(with_reducible refine (dP.calls k  true _ A2.out).mono ?_);rintro e w8 ⟨rfl,hb⟩;refine ⟨_,rfl,?_⟩;have Al:=Aside0.mk (aJ hb_ hb);clear HB;have HB:=Al;clear Al;(try clear hb);(try clear hb2);(try clear hk);(try clear hi))|(go_at_call 33;(with_reducible refine (bT.calls k  true _ A4.out).mono ?_);rintro e w9 ⟨rfl,hb⟩;have Al:=Aside0.mk (aJ hb_ hb);clear HB;have HB:=Al;clear Al;(try clear hb);(try clear hb2);(try clear hk);(try clear hi)))
    go_ret
    exact ⟨by first|rfl|(simp [aV,aW] <;> rfl)|(simp [*,aV,aW] <;> rfl),hb_⟩
   ·rw [if_neg c6] at H
    have c6b0 : (Am == 0) = false:=beq_eq_false_iff_ne.mpr c6
    have c6b1 : (Am != 0) = true:=bne_iff_ne.mpr c6
    obtain rfl:=Option.some.inj H
    go_enter Tryd.func79,Tryd.ntmps79
    go_wp2_with (first|((with_reducible refine bq (f:=98) rfl ?_);refine cO (some 5) rfl rfl Tryd.func98 (by kernel_rfl) rfl #[.agg #[.int .u32 1,.slice none 0 0]] rfl (by (try simp only [List.map_toArray,List.map_cons,List.map_nil]);first|done|rfl|(simp only [List.length_drop,List.length_take];rfl)|(simp (disch:=first|omega|(simp at *;omega)) only [cZ,bS,dQ];rfl)) ?_;(refine (dF.calls k 1 _ _ ([] : List (S158)) Au Am _ ?Ap ?Aq A1.out).mono ?_);(case Ap=>exact Kd.lU _ _);(case Aq=>exact Nat.le_refl _);rintro e AL ⟨rfl,hb⟩;refine ⟨_,rfl,?_⟩;have Al:=Aside0.mk (aJ hb_ hb);clear HB;have HB:=Al;clear Al;(try clear hb);(try clear hb2);(try clear hk);(try clear hi))|((with_reducible refine bq (f:=99) rfl ?_);refine cO (some 8) rfl rfl Tryd.func99 (by kernel_rfl) rfl #[] rfl (by (try simp only [List.map_toArray,List.map_cons,List.map_nil]);first|done|rfl|(simp only [List.length_drop,List.length_take];rfl)|(simp (disch:=first|omega|(simp at *;omega)) only [cZ,bS,dQ];rfl)) ?_;(with_reducible refine (dP.calls k  true _ A2.out).mono ?_);rintro e AO ⟨rfl,hb⟩;refine ⟨_,rfl,?_⟩;have Al:=Aside0.mk (aJ hb_ hb);clear HB;have HB:=Al;clear Al;(try clear hb);(try clear hb2);(try clear hk);(try clear hi))|(go_at_call 33;(with_reducible refine (bT.calls k  true _ A4.out).mono ?_);rintro e AP ⟨rfl,hb⟩;have Al:=Aside0.mk (aJ hb_ hb);clear HB;have HB:=Al;clear Al;(try clear hb);(try clear hb2);(try clear hk);(try clear hi)))
    go_ret
    exact ⟨by first|rfl|(simp [aV,aW] <;> rfl)|(simp [*,aV,aW] <;> rfl),hb_⟩
  ·replace c5:=Bool.eq_false_iff.mpr c5
   subst c5
   have H1 : (some false) = some r:=by rw [if_neg (show ¬ (false = true) by decide)] at H;exact H
   clear H
   have H:=H1
   clear H1
   obtain rfl:=Option.some.inj H
   go_enter Tryd.func79,Tryd.ntmps79
   go_wp2_with (first|((with_reducible refine bq (f:=98) rfl ?_);refine cO (some 5) rfl rfl Tryd.func98 (by kernel_rfl) rfl #[.agg #[.int .u32 1,.slice none 0 0]] rfl (by (try simp only [List.map_toArray,List.map_cons,List.map_nil]);first|done|rfl|(simp only [List.length_drop,List.length_take];rfl)|(simp (disch:=first|omega|(simp at *;omega)) only [cZ,bS,dQ];rfl)) ?_;(refine (dF.calls k 1 _ _ ([] : List (S158)) Au Am _ ?Ap ?Aq A1.out).mono ?_);(case Ap=>exact Kd.lU _ _);(case Aq=>exact Nat.le_refl _);rintro e AQ ⟨rfl,hb⟩;refine ⟨_,rfl,?_⟩;have Al:=Aside0.mk (aJ hb_ hb);clear HB;have HB:=Al;clear Al;(try clear hb);(try clear hb2);(try clear hk);(try clear hi))|((with_reducible refine bq (f:=99) rfl ?_);refine cO (some 8) rfl rfl Tryd.func99 (by kernel_rfl) rfl #[] rfl (by (try simp only [List.map_toArray,List.map_cons,List.map_nil]);first|done|rfl|(simp only [List.length_drop,List.length_take];rfl)|(simp (disch:=first|omega|(simp at *;omega)) only [cZ,bS,dQ];rfl)) ?_;(with_reducible refine (dP.calls k  true _ A2.out).mono ?_);rintro e AU ⟨rfl,hb⟩;refine ⟨_,rfl,?_⟩;have Al:=Aside0.mk (aJ hb_ hb);clear HB;have HB:=Al;clear Al;(try clear hb);(try clear hb2);(try clear hk);(try clear hi))|(go_at_call 33;(with_reducible refine (bT.calls k  false _ A4.out).mono ?_);rintro e AV ⟨rfl,hb⟩;have Al:=Aside0.mk (aJ hb_ hb);clear HB;have HB:=Al;clear Al;(try clear hb);(try clear hb2);(try clear hk);(try clear hi)))
   go_ret
   exact ⟨by first|rfl|(simp [aV,aW] <;> rfl)|(simp [*,aV,aW] <;> rfl),hb_⟩
 ·replace c3:=Bool.eq_false_iff.mpr c3
  subst c3
  have H1 : (some false) = some r:=by rw [if_neg (show ¬ (false = true) by decide)] at H;exact H
  clear H
  have H:=H1
  clear H1
  obtain rfl:=Option.some.inj H
  go_enter Tryd.func79,Tryd.ntmps79
  go_wp2_with (first|((with_reducible refine bq (f:=98) rfl ?_);refine cO (some 5) rfl rfl Tryd.func98 (by kernel_rfl) rfl #[.agg #[.int .u32 1,.slice none 0 0]] rfl (by (try simp only [List.map_toArray,List.map_cons,List.map_nil]);first|done|rfl|(simp only [List.length_drop,List.length_take];rfl)|(simp (disch:=first|omega|(simp at *;omega)) only [cZ,bS,dQ];rfl)) ?_;(refine (dF.calls k 1 _ _ ([] : List (S158)) Au Am _ ?Ap ?Aq A1.out).mono ?_);(case Ap=>exact Kd.lU _ _);(case Aq=>exact Nat.le_refl _);rintro e w16 ⟨rfl,hb⟩;refine ⟨_,rfl,?_⟩;have Al:=Aside0.mk (aJ hb_ hb);clear HB;have HB:=Al;clear Al;(try clear hb);(try clear hb2);(try clear hk);(try clear hi))|((with_reducible refine bq (f:=99) rfl ?_);refine cO (some 8) rfl rfl Tryd.func99 (by kernel_rfl) rfl #[] rfl (by (try simp only [List.map_toArray,List.map_cons,List.map_nil]);first|done|rfl|(simp only [List.length_drop,List.length_take];rfl)|(simp (disch:=first|omega|(simp at *;omega)) only [cZ,bS,dQ];rfl)) ?_;(with_reducible refine (dP.calls k  false _ A2.out).mono ?_);rintro e AX ⟨rfl,hb⟩;refine ⟨_,rfl,?_⟩;have Al:=Aside0.mk (aJ hb_ hb);clear HB;have HB:=Al;clear Al;(try clear hb);(try clear hb2);(try clear hk);(try clear hi)))
  go_ret
  exact ⟨by first|rfl|(simp [aV,aW] <;> rfl)|(simp [*,aV,aW] <;> rfl),hb_⟩
end Go.Proofs.YtpflenjhmeaeoaaDoor.GUt
