/- Written by this session's own program (wip/gen.py) out of the translation: plain Lean functions of the Go functions, and proofs that the calls come to their answers. No conditions beside those in the statements. -/
import Derived.Test.YtpflenjhmeaeoaaDoorGUtx0
import Derived.Test.YtpflenjhmeaeoaaDoorGUtx1
import Derived.Test.YtpflenjhmeaeoaaDoorGUtx3
import Derived.Test.YtpflenjhmeaeoaaDoorGUtName
namespace Go.Proofs.YtpflenjhmeaeoaaDoor.GUt
open Go.RowKit Go.Proofs.YtpflenjhmeaeoaaDoorW.PrintWords Go.Proofs.YtpflenjhmeaeoaaDoorW.PrintLast Go.Proofs.YtpflenjhmeaeoaaDoorW.PrintMore
attribute [local go_sem] dS dU eG eH dI dJ dV dW
set_option linter.unusedVariables false
set_option linter.unusedSimpArgs false
def bq.f (k : Nat)  : Option (Bool):=(aK.f k (⟨#[97,45,49]⟩ : ByteArray)).bind fun t124=>(if t124 = true then ((aK.f k (⟨#[45,97]⟩ : ByteArray)).bind fun sF=>(if sF = true then (some false) else ((cK.f k (⟨#[97,46,98,45,99]⟩ : ByteArray)).bind fun sD=>(if sD = true then ((aJ.f k (⟨#[95,88]⟩ : ByteArray)).bind fun t127=>(some t127)) else (some false))))) else (some false))
theorem bq.mono : ∀ k,LeO (bq.f k ) (bq.f (k + 1) ):=by
 intro  k
 unfold bq.f
 repeat' first
   | (with_reducible exact aK.mono _ _)
   | (with_reducible exact cK.mono _ _)
   | (with_reducible exact aJ.mono _ _)
   | (with_reducible exact LeO.refl _)
   | (with_reducible exact LeO.none _)
   | (with_reducible refine LeO.ite ?_ ?_)
   | (with_reducible refine LeO.bind ?_ (fun _=>?_))
   | exact aK.mono _ _
   | exact cK.mono _ _
   | exact aJ.mono _ _
   | exact LeO.none _
   | refine LeO.ite ?_ ?_
   | refine LeO.bind ?_ (fun _=>?_)
set_option maxHeartbeats 8000000 in
set_option maxRecDepth 100000 in
theorem bq.calls (k : Nat)  (r : Bool) (w : World) (h : bq.f k  = some r) :
  Calls Tryd.prog 33 #[] w fun e w'=>e = .returned (.bool r) ∧ Below w.heap.size w w':=by
 have HB:=Aside0.mk (Below.refl w.heap.size w)
 have H : ((aK.f k (⟨#[97,45,49]⟩ : ByteArray)).bind fun t124=>(if t124 = true then ((aK.f k (⟨#[45,97]⟩ : ByteArray)).bind fun sF=>(if sF = true then (some false) else ((cK.f k (⟨#[97,46,98,45,99]⟩ : ByteArray)).bind fun sD=>(if sD = true then ((aJ.f k (⟨#[95,88]⟩ : ByteArray)).bind fun t127=>(some t127)) else (some false))))) else (some false))) = some r:=h
 clear h
 replace H:=Option.bind_eq_some_iff.mp H
 obtain ⟨t124,sH,H⟩:=H
 replace H : (if t124 = true then ((aK.f k (⟨#[45,97]⟩ : ByteArray)).bind fun sF=>(if sF = true then (some false) else ((cK.f k (⟨#[97,46,98,45,99]⟩ : ByteArray)).bind fun sD=>(if sD = true then ((aJ.f k (⟨#[95,88]⟩ : ByteArray)).bind fun t127=>(some t127)) else (some false))))) else (some false)) = some r:=H
 have A1:=Aside0.mk sH
 clear sH
 by_cases c2 : t124 = true
 ·subst c2
  have H1 : ((aK.f k (⟨#[45,97]⟩ : ByteArray)).bind fun sF=>(if sF = true then (some false) else ((cK.f k (⟨#[97,46,98,45,99]⟩ : ByteArray)).bind fun sD=>(if sD = true then ((aJ.f k (⟨#[95,88]⟩ : ByteArray)).bind fun t127=>(some t127)) else (some false))))) = some r:=by rw [if_pos rfl] at H;exact H
  clear H
  have H:=H1
  clear H1
  replace H:=Option.bind_eq_some_iff.mp H
  obtain ⟨sF,sI,H⟩:=H
  replace H : (if sF = true then (some false) else ((cK.f k (⟨#[97,46,98,45,99]⟩ : ByteArray)).bind fun sD=>(if sD = true then ((aJ.f k (⟨#[95,88]⟩ : ByteArray)).bind fun t127=>(some t127)) else (some false)))) = some r:=H
  have A3:=Aside0.mk sI
  clear sI
  by_cases c4 : sF = true
  ·subst c4
   have H1 : (some false) = some r:=by rw [if_pos rfl] at H;exact H
   clear H
   have H:=H1
   clear H1
   obtain rfl:=Option.some.inj H
   go_enter Tryd.func33,Tryd.ntmps33
   go_wp2_with (first|((with_reducible refine aM (f:=37) rfl ?_);refine bE (some 1) rfl rfl Tryd.func37 (by kernel_rfl) rfl #[.string (⟨#[97,45,49]⟩ : ByteArray)] rfl (by (try simp only [List.map_toArray,List.map_cons,List.map_nil]);first|done|rfl|(simp only [List.length_drop,List.length_take];rfl)|(simp (disch:=first|omega|(simp at *;omega)) only [bF,bg,bU];rfl)) ?_;(with_reducible refine (aK.calls k (⟨#[97,45,49]⟩ : ByteArray) true _ A1.out).mono ?_);rintro e w' ⟨rfl,⟨nd,rfl⟩⟩;refine ⟨_,rfl,?_⟩)|(go_at_call 37;(with_reducible refine (aK.calls k (⟨#[45,97]⟩ : ByteArray) true _ A3.out).mono ?_);rintro e w' ⟨rfl,⟨nd,rfl⟩⟩))
   go_ret
   exact ⟨by first|rfl|(simp [aP,aQ] <;> rfl)|(simp [*,aP,aQ] <;> rfl),by repeat (first|(with_reducible first|exact HB.out|apply ay|apply aj|apply av)|exact HB.out)⟩
  ·replace c4:=Bool.eq_false_iff.mpr c4
   subst c4
   have H1 : ((cK.f k (⟨#[97,46,98,45,99]⟩ : ByteArray)).bind fun sD=>(if sD = true then ((aJ.f k (⟨#[95,88]⟩ : ByteArray)).bind fun t127=>(some t127)) else (some false))) = some r:=by rw [if_neg (show ¬ (false = true) by decide)] at H;exact H
   clear H
   have H:=H1
   clear H1
   replace H:=Option.bind_eq_some_iff.mp H
   obtain ⟨sD,sJ,H⟩:=H
   replace H : (if sD = true then ((aJ.f k (⟨#[95,88]⟩ : ByteArray)).bind fun t127=>(some t127)) else (some false)) = some r:=H
   have A5:=Aside0.mk sJ
   clear sJ
   by_cases c6 : sD = true
   ·subst c6
    have H1 : ((aJ.f k (⟨#[95,88]⟩ : ByteArray)).bind fun t127=>(some t127)) = some r:=by rw [if_pos rfl] at H;exact H
    clear H
    have H:=H1
    clear H1
    replace H:=Option.bind_eq_some_iff.mp H
    obtain ⟨t127,sK,H⟩:=H
    replace H : (some t127) = some r:=H
    have A7:=Aside0.mk sK
    clear sK
    obtain rfl:=Option.some.inj H
    go_enter Tryd.func33,Tryd.ntmps33
    go_wp2_with (first|((with_reducible refine aM (f:=37) rfl ?_);refine bE (some 1) rfl rfl Tryd.func37 (by kernel_rfl) rfl #[.string (⟨#[97,45,49]⟩ : ByteArray)] rfl (by (try simp only [List.map_toArray,List.map_cons,List.map_nil]);first|done|rfl|(simp only [List.length_drop,List.length_take];rfl)|(simp (disch:=first|omega|(simp at *;omega)) only [bF,bg,bU];rfl)) ?_;(with_reducible refine (aK.calls k (⟨#[97,45,49]⟩ : ByteArray) true _ A1.out).mono ?_);rintro e w' ⟨rfl,⟨nd,rfl⟩⟩;refine ⟨_,rfl,?_⟩)|(go_at_call 37;(with_reducible refine (aK.calls k (⟨#[45,97]⟩ : ByteArray) false _ A3.out).mono ?_);rintro e w' ⟨rfl,⟨nd,rfl⟩⟩)|(go_at_call 36;(with_reducible refine (cK.calls k (⟨#[97,46,98,45,99]⟩ : ByteArray) true _ A5.out).mono ?_);rintro e w8 ⟨rfl,hb⟩;have sG:=Aside0.mk (aH (by repeat (first|(with_reducible first|exact HB.out|apply ay|apply aj|apply av)|exact HB.out)) hb);clear HB;have HB:=sG;clear sG;(try clear hb);(try clear hb2);(try clear hk);(try clear hi))|(go_at_call 61;(with_reducible refine (aJ.calls k (⟨#[95,88]⟩ : ByteArray) t127 _ A7.out).mono ?_);rintro e w' ⟨rfl,⟨nd,rfl⟩⟩))
    go_ret
    exact ⟨by first|rfl|(simp [aP,aQ] <;> rfl)|(simp [*,aP,aQ] <;> rfl),by repeat (first|(with_reducible first|exact HB.out|apply ay|apply aj|apply av)|exact HB.out)⟩
   ·replace c6:=Bool.eq_false_iff.mpr c6
    subst c6
    have H1 : (some false) = some r:=by rw [if_neg (show ¬ (false = true) by decide)] at H;exact H
    clear H
    have H:=H1
    clear H1
    obtain rfl:=Option.some.inj H
    go_enter Tryd.func33,Tryd.ntmps33
    go_wp2_with (first|((with_reducible refine aM (f:=37) rfl ?_);refine bE (some 1) rfl rfl Tryd.func37 (by kernel_rfl) rfl #[.string (⟨#[97,45,49]⟩ : ByteArray)] rfl (by (try simp only [List.map_toArray,List.map_cons,List.map_nil]);first|done|rfl|(simp only [List.length_drop,List.length_take];rfl)|(simp (disch:=first|omega|(simp at *;omega)) only [bF,bg,bU];rfl)) ?_;(with_reducible refine (aK.calls k (⟨#[97,45,49]⟩ : ByteArray) true _ A1.out).mono ?_);rintro e w' ⟨rfl,⟨nd,rfl⟩⟩;refine ⟨_,rfl,?_⟩)|(go_at_call 37;(with_reducible refine (aK.calls k (⟨#[45,97]⟩ : ByteArray) false _ A3.out).mono ?_);rintro e w' ⟨rfl,⟨nd,rfl⟩⟩)|(go_at_call 36;(with_reducible refine (cK.calls k (⟨#[97,46,98,45,99]⟩ : ByteArray) false _ A5.out).mono ?_);rintro e w9 ⟨rfl,hb⟩;have sG:=Aside0.mk (aH (by repeat (first|(with_reducible first|exact HB.out|apply ay|apply aj|apply av)|exact HB.out)) hb);clear HB;have HB:=sG;clear sG;(try clear hb);(try clear hb2);(try clear hk);(try clear hi)))
    go_ret
    exact ⟨by first|rfl|(simp [aP,aQ] <;> rfl)|(simp [*,aP,aQ] <;> rfl),by repeat (first|(with_reducible first|exact HB.out|apply ay|apply aj|apply av)|exact HB.out)⟩
 ·replace c2:=Bool.eq_false_iff.mpr c2
  subst c2
  have H1 : (some false) = some r:=by rw [if_neg (show ¬ (false = true) by decide)] at H;exact H
  clear H
  have H:=H1
  clear H1
  obtain rfl:=Option.some.inj H
  go_enter Tryd.func33,Tryd.ntmps33
  go_wp2_with (first|((with_reducible refine aM (f:=37) rfl ?_);refine bE (some 1) rfl rfl Tryd.func37 (by kernel_rfl) rfl #[.string (⟨#[97,45,49]⟩ : ByteArray)] rfl (by (try simp only [List.map_toArray,List.map_cons,List.map_nil]);first|done|rfl|(simp only [List.length_drop,List.length_take];rfl)|(simp (disch:=first|omega|(simp at *;omega)) only [bF,bg,bU];rfl)) ?_;(with_reducible refine (aK.calls k (⟨#[97,45,49]⟩ : ByteArray) false _ A1.out).mono ?_);rintro e w' ⟨rfl,⟨nd,rfl⟩⟩;refine ⟨_,rfl,?_⟩))
  go_ret
  exact ⟨by first|rfl|(simp [aP,aQ] <;> rfl)|(simp [*,aP,aQ] <;> rfl),by repeat (first|(with_reducible first|exact HB.out|apply ay|apply aj|apply av)|exact HB.out)⟩
end Go.Proofs.YtpflenjhmeaeoaaDoor.GUt
