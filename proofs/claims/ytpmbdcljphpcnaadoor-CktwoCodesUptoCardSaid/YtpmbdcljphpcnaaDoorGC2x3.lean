/- Written by this session's own program (wip/gen.py) out of the translation: plain Lean functions of the Go functions, and proofs that the calls come to their answers. No conditions beside those in the statements. -/
import Derived.Test.YtpmbdcljphpcnaaDoorGC2x0
import Derived.Test.YtpmbdcljphpcnaaDoorGC2x2
import Derived.Test.YtpmbdcljphpcnaaDoorGC2Name
namespace Go.Proofs.YtpmbdcljphpcnaaDoor.GC2
open Go.RowKit Go.Proofs.YtpmbdcljphpcnaaDoorW.PrintWords Go.Proofs.YtpmbdcljphpcnaaDoorW.PrintLast Go.Proofs.YtpmbdcljphpcnaaDoorW.PrintMore
attribute [local go_sem] eY eZ fJ fK eP eT fq fu
set_option linter.unusedVariables false
set_option linter.unusedSimpArgs false
def dF.f (k : Nat)  : Option (Bool):=(aX.f k (⟨#[97,45,49]⟩ : ByteArray)).bind fun xK=>(if xK = true then ((aX.f k (⟨#[45,97]⟩ : ByteArray)).bind fun xJ=>(if xJ = true then (some false) else ((dG.f k (⟨#[97,46,98,45,99]⟩ : ByteArray)).bind fun xI=>(if xI = true then ((bB.f k (⟨#[95,88]⟩ : ByteArray)).bind fun t124=>(some t124)) else (some false))))) else (some false))
theorem dF.mono : ∀ k,LeO (dF.f k ) (dF.f (k + 1) ):=by
 intro  k
 unfold dF.f
 repeat' first
   | (with_reducible exact aX.mono _ _)
   | (with_reducible exact dG.mono _ _)
   | (with_reducible exact bB.mono _ _)
   | (with_reducible exact LeO.refl _)
   | (with_reducible exact LeO.none _)
   | (with_reducible refine LeO.ite ?_ ?_)
   | (with_reducible refine LeO.bind ?_ (fun _=>?_))
   | exact aX.mono _ _
   | exact dG.mono _ _
   | exact bB.mono _ _
   | exact LeO.none _
   | refine LeO.ite ?_ ?_
   | refine LeO.bind ?_ (fun _=>?_)
set_option maxHeartbeats 8000000 in
set_option maxRecDepth 100000 in
theorem dF.calls (k : Nat)  (r : Bool) (w : World) (h : dF.f k  = some r) :
  Calls Tryd.prog 34 #[] w fun e w'=>e = .returned (.bool r) ∧ Below w.heap.size w w':=by
 have HB:=Aside0.mk (Below.refl w.heap.size w)
 have H : ((aX.f k (⟨#[97,45,49]⟩ : ByteArray)).bind fun xK=>(if xK = true then ((aX.f k (⟨#[45,97]⟩ : ByteArray)).bind fun xJ=>(if xJ = true then (some false) else ((dG.f k (⟨#[97,46,98,45,99]⟩ : ByteArray)).bind fun xI=>(if xI = true then ((bB.f k (⟨#[95,88]⟩ : ByteArray)).bind fun t124=>(some t124)) else (some false))))) else (some false))) = some r:=h
 clear h
 replace H:=Option.bind_eq_some_iff.mp H
 obtain ⟨xK,xM,H⟩:=H
 replace H : (if xK = true then ((aX.f k (⟨#[45,97]⟩ : ByteArray)).bind fun xJ=>(if xJ = true then (some false) else ((dG.f k (⟨#[97,46,98,45,99]⟩ : ByteArray)).bind fun xI=>(if xI = true then ((bB.f k (⟨#[95,88]⟩ : ByteArray)).bind fun t124=>(some t124)) else (some false))))) else (some false)) = some r:=H
 have A1:=Aside0.mk xM
 clear xM
 by_cases c2 : xK = true
 ·subst c2
  have H1 : ((aX.f k (⟨#[45,97]⟩ : ByteArray)).bind fun xJ=>(if xJ = true then (some false) else ((dG.f k (⟨#[97,46,98,45,99]⟩ : ByteArray)).bind fun xI=>(if xI = true then ((bB.f k (⟨#[95,88]⟩ : ByteArray)).bind fun t124=>(some t124)) else (some false))))) = some r:=by rw [if_pos rfl] at H;exact H
  clear H
  have H:=H1
  clear H1
  replace H:=Option.bind_eq_some_iff.mp H
  obtain ⟨xJ,xO,H⟩:=H
  replace H : (if xJ = true then (some false) else ((dG.f k (⟨#[97,46,98,45,99]⟩ : ByteArray)).bind fun xI=>(if xI = true then ((bB.f k (⟨#[95,88]⟩ : ByteArray)).bind fun t124=>(some t124)) else (some false)))) = some r:=H
  have A3:=Aside0.mk xO
  clear xO
  by_cases c4 : xJ = true
  ·subst c4
   have H1 : (some false) = some r:=by rw [if_pos rfl] at H;exact H
   clear H
   have H:=H1
   clear H1
   obtain rfl:=Option.some.inj H
   go_enter Tryd.func34,Tryd.ntmps34
   go_wp2_with (first|((with_reducible refine bK (f:=56) rfl ?_);refine dH (some 1) rfl rfl Tryd.func56 (by kernel_rfl) rfl #[.string (⟨#[97,45,49]⟩ : ByteArray)] rfl (by (try simp only [List.map_toArray,List.map_cons,List.map_nil]);first|done|rfl|(simp only [List.length_drop,List.length_take];rfl)|(simp (disch:=first|omega|(simp at *;omega)) only [dh,bY,dY];rfl)) ?_;(with_reducible refine (aX.calls k (⟨#[97,45,49]⟩ : ByteArray) true _ A1.out).mono ?_);rintro e w' ⟨rfl,⟨nd,rfl⟩⟩;refine ⟨_,rfl,?_⟩)|(go_at_call 56;(with_reducible refine (aX.calls k (⟨#[45,97]⟩ : ByteArray) true _ A3.out).mono ?_);rintro e w' ⟨rfl,⟨nd,rfl⟩⟩))
   go_ret
   exact ⟨by first|rfl|(simp [aZ,bf] <;> rfl)|(simp [*,aZ,bf] <;> rfl),by repeat (first|(with_reducible first|exact HB.out|apply ay|apply aj|apply av)|exact HB.out)⟩
  ·replace c4:=Bool.eq_false_iff.mpr c4
   subst c4
   have H1 : ((dG.f k (⟨#[97,46,98,45,99]⟩ : ByteArray)).bind fun xI=>(if xI = true then ((bB.f k (⟨#[95,88]⟩ : ByteArray)).bind fun t124=>(some t124)) else (some false))) = some r:=by rw [if_neg (show ¬ (false = true) by decide)] at H;exact H
   clear H
   have H:=H1
   clear H1
   replace H:=Option.bind_eq_some_iff.mp H
   obtain ⟨xI,xP,H⟩:=H
   replace H : (if xI = true then ((bB.f k (⟨#[95,88]⟩ : ByteArray)).bind fun t124=>(some t124)) else (some false)) = some r:=H
   have A5:=Aside0.mk xP
   clear xP
   by_cases c6 : xI = true
   ·subst c6
    have H1 : ((bB.f k (⟨#[95,88]⟩ : ByteArray)).bind fun t124=>(some t124)) = some r:=by rw [if_pos rfl] at H;exact H
    clear H
    have H:=H1
    clear H1
    replace H:=Option.bind_eq_some_iff.mp H
    obtain ⟨t124,xQ,H⟩:=H
    replace H : (some t124) = some r:=H
    have A7:=Aside0.mk xQ
    clear xQ
    obtain rfl:=Option.some.inj H
    go_enter Tryd.func34,Tryd.ntmps34
    go_wp2_with (first|((with_reducible refine bK (f:=56) rfl ?_);refine dH (some 1) rfl rfl Tryd.func56 (by kernel_rfl) rfl #[.string (⟨#[97,45,49]⟩ : ByteArray)] rfl (by (try simp only [List.map_toArray,List.map_cons,List.map_nil]);first|done|rfl|(simp only [List.length_drop,List.length_take];rfl)|(simp (disch:=first|omega|(simp at *;omega)) only [dh,bY,dY];rfl)) ?_;(with_reducible refine (aX.calls k (⟨#[97,45,49]⟩ : ByteArray) true _ A1.out).mono ?_);rintro e w' ⟨rfl,⟨nd,rfl⟩⟩;refine ⟨_,rfl,?_⟩)|(go_at_call 56;(with_reducible refine (aX.calls k (⟨#[45,97]⟩ : ByteArray) false _ A3.out).mono ?_);rintro e w' ⟨rfl,⟨nd,rfl⟩⟩)|(go_at_call 41;(with_reducible refine (dG.calls k (⟨#[97,46,98,45,99]⟩ : ByteArray) true _ A5.out).mono ?_);rintro e w8 ⟨rfl,hb⟩;have xL:=Aside0.mk (aQ (by repeat (first|(with_reducible first|exact HB.out|apply ay|apply aj|apply av)|exact HB.out)) hb);clear HB;have HB:=xL;clear xL;(try clear hb);(try clear hb2);(try clear hk);(try clear hi))|(go_at_call 63;(with_reducible refine (bB.calls k (⟨#[95,88]⟩ : ByteArray) t124 _ A7.out).mono ?_);rintro e w' ⟨rfl,⟨nd,rfl⟩⟩))
    go_ret
    exact ⟨by first|rfl|(simp [aZ,bf] <;> rfl)|(simp [*,aZ,bf] <;> rfl),by repeat (first|(with_reducible first|exact HB.out|apply ay|apply aj|apply av)|exact HB.out)⟩
   ·replace c6:=Bool.eq_false_iff.mpr c6
    subst c6
    have H1 : (some false) = some r:=by rw [if_neg (show ¬ (false = true) by decide)] at H;exact H
    clear H
    have H:=H1
    clear H1
    obtain rfl:=Option.some.inj H
    go_enter Tryd.func34,Tryd.ntmps34
    go_wp2_with (first|((with_reducible refine bK (f:=56) rfl ?_);refine dH (some 1) rfl rfl Tryd.func56 (by kernel_rfl) rfl #[.string (⟨#[97,45,49]⟩ : ByteArray)] rfl (by (try simp only [List.map_toArray,List.map_cons,List.map_nil]);first|done|rfl|(simp only [List.length_drop,List.length_take];rfl)|(simp (disch:=first|omega|(simp at *;omega)) only [dh,bY,dY];rfl)) ?_;(with_reducible refine (aX.calls k (⟨#[97,45,49]⟩ : ByteArray) true _ A1.out).mono ?_);rintro e w' ⟨rfl,⟨nd,rfl⟩⟩;refine ⟨_,rfl,?_⟩)|(go_at_call 56;(with_reducible refine (aX.calls k (⟨#[45,97]⟩ : ByteArray) false _ A3.out).mono ?_);rintro e w' ⟨rfl,⟨nd,rfl⟩⟩)|(go_at_call 41;(with_reducible refine (dG.calls k (⟨#[97,46,98,45,99]⟩ : ByteArray) false _ A5.out).mono ?_);rintro e w9 ⟨rfl,hb⟩;have xL:=Aside0.mk (aQ (by repeat (first|(with_reducible first|exact HB.out|apply ay|apply aj|apply av)|exact HB.out)) hb);clear HB;have HB:=xL;clear xL;(try clear hb);(try clear hb2);(try clear hk);(try clear hi)))
    go_ret
    exact ⟨by first|rfl|(simp [aZ,bf] <;> rfl)|(simp [*,aZ,bf] <;> rfl),by repeat (first|(with_reducible first|exact HB.out|apply ay|apply aj|apply av)|exact HB.out)⟩
 ·replace c2:=Bool.eq_false_iff.mpr c2
  subst c2
  have H1 : (some false) = some r:=by rw [if_neg (show ¬ (false = true) by decide)] at H;exact H
  clear H
  have H:=H1
  clear H1
  obtain rfl:=Option.some.inj H
  go_enter Tryd.func34,Tryd.ntmps34
  go_wp2_with (first|((with_reducible refine bK (f:=56) rfl ?_);refine dH (some 1) rfl rfl Tryd.func56 (by kernel_rfl) rfl #[.string (⟨#[97,45,49]⟩ : ByteArray)] rfl (by (try simp only [List.map_toArray,List.map_cons,List.map_nil]);first|done|rfl|(simp only [List.length_drop,List.length_take];rfl)|(simp (disch:=first|omega|(simp at *;omega)) only [dh,bY,dY];rfl)) ?_;(with_reducible refine (aX.calls k (⟨#[97,45,49]⟩ : ByteArray) false _ A1.out).mono ?_);rintro e w' ⟨rfl,⟨nd,rfl⟩⟩;refine ⟨_,rfl,?_⟩))
  go_ret
  exact ⟨by first|rfl|(simp [aZ,bf] <;> rfl)|(simp [*,aZ,bf] <;> rfl),by repeat (first|(with_reducible first|exact HB.out|apply ay|apply aj|apply av)|exact HB.out)⟩
end Go.Proofs.YtpmbdcljphpcnaaDoor.GC2
