/- Written by this session's own program (wip/gen.py) out of the translation: plain Lean functions of the Go functions, and proofs that the calls come to their answers. No conditions beside those in the statements. -/
import Derived.Test.YtpflenjhmeaeoaaDoorGUtx0
import Derived.Test.YtpflenjhmeaeoaaDoorGUtQuote
import Derived.Test.YtpflenjhmeaeoaaDoorGUtUnq
import Derived.Test.YtpflenjhmeaeoaaDoorGW
namespace Go.Proofs.YtpflenjhmeaeoaaDoor.GUt
open Go.RowKit Go.Proofs.YtpflenjhmeaeoaaDoorW.PrintWords Go.Proofs.YtpflenjhmeaeoaaDoorW.PrintLast Go.Proofs.YtpflenjhmeaeoaaDoorW.PrintMore
attribute [local go_sem] dS dU eG eH dI dJ dV dW
set_option linter.unusedVariables false
set_option linter.unusedSimpArgs false
def bB.f (k : Nat)  : Option (Bool):=(bT.f k (⟨#[34,92,117,48,48,101,57,34]⟩ : ByteArray)).bind fun sD=>(if sD.1.toList = ([195,169] : List UInt8) then (if sD.2.1 = 8 then (if sD.2.2 = 0 then ((fE.f (⟨#[97,34,10]⟩ : ByteArray)).bind fun sI=>(some (sI.toList == ([34,97,92,34,92,110,34] : List UInt8)))) else (some false)) else (some false)) else (some false))
theorem bB.mono : ∀ k,LeO (bB.f k ) (bB.f (k + 1) ):=by
 intro  k
 unfold bB.f
 repeat' first
   | (with_reducible exact bT.mono _ _)
   | (with_reducible exact LeO.refl _)
   | (with_reducible exact LeO.none _)
   | (with_reducible refine LeO.ite ?_ ?_)
   | (with_reducible refine LeO.bind ?_ (fun _=>?_))
   | exact bT.mono _ _
   | exact LeO.none _
   | refine LeO.ite ?_ ?_
   | refine LeO.bind ?_ (fun _=>?_)
set_option maxHeartbeats 8000000 in
set_option maxRecDepth 100000 in
theorem bB.calls (k : Nat)  (r : Bool) (w : World) (h : bB.f k  = some r) (hG : GW.GW w) :
  Calls Tryd.prog 32 #[] w fun e w'=>e = .returned (.bool r) ∧ Below w.heap.size w w':=by
 have HB:=Aside0.mk (Below.refl w.heap.size w)
 have H : ((bT.f k (⟨#[34,92,117,48,48,101,57,34]⟩ : ByteArray)).bind fun sD=>(if sD.1.toList = ([195,169] : List UInt8) then (if sD.2.1 = 8 then (if sD.2.2 = 0 then ((fE.f (⟨#[97,34,10]⟩ : ByteArray)).bind fun sI=>(some (sI.toList == ([34,97,92,34,92,110,34] : List UInt8)))) else (some false)) else (some false)) else (some false))) = some r:=h
 clear h
 replace H:=Option.bind_eq_some_iff.mp H
 obtain ⟨⟨sF,sG,sH⟩,sK,H⟩:=H
 replace H : (if sF.toList = ([195,169] : List UInt8) then (if sG = 8 then (if sH = 0 then ((fE.f (⟨#[97,34,10]⟩ : ByteArray)).bind fun sI=>(some (sI.toList == ([34,97,92,34,92,110,34] : List UInt8)))) else (some false)) else (some false)) else (some false)) = some r:=H
 have A1:=Aside0.mk sK
 clear sK
 by_cases c2 : sF.toList = ([195,169] : List UInt8)
 ·rw [if_pos c2] at H
  have c2b0 : (sF.toList == ([195,169] : List UInt8)) = true:=beq_iff_eq.mpr c2
  have c2b1 : (sF.toList != ([195,169] : List UInt8)) = false:=bne_eq_false_iff_eq.mpr c2
  clear c2
  by_cases c3 : sG = 8
  ·rw [if_pos c3] at H
   have c3b0 : (sG == 8) = true:=beq_iff_eq.mpr c3
   have c3b1 : (sG != 8) = false:=bne_eq_false_iff_eq.mpr c3
   clear c3
   by_cases c4 : sH = 0
   ·rw [if_pos c4] at H
    have c4b0 : (sH == 0) = true:=beq_iff_eq.mpr c4
    have c4b1 : (sH != 0) = false:=bne_eq_false_iff_eq.mpr c4
    clear c4
    replace H:=Option.bind_eq_some_iff.mp H
    obtain ⟨sI,sM,H⟩:=H
    replace H : (some (sI.toList == ([34,97,92,34,92,110,34] : List UInt8))) = some r:=H
    have A5:=Aside0.mk sM
    clear sM
    obtain rfl:=Option.some.inj H
    go_enter Tryd.func32,Tryd.ntmps32
    go_wp2_with (first|((with_reducible refine aM (f:=59) rfl ?_);refine bE (some 5) rfl rfl Tryd.func59 (by kernel_rfl) rfl #[.string (⟨#[34,92,117,48,48,101,57,34]⟩ : ByteArray)] rfl (by (try simp only [List.map_toArray,List.map_cons,List.map_nil]);first|done|rfl|(simp only [List.length_drop,List.length_take];rfl)|(simp (disch:=first|omega|(simp at *;omega)) only [bF,bg,bU];rfl)) ?_;(with_reducible refine (bT.calls k (⟨#[34,92,117,48,48,101,57,34]⟩ : ByteArray) sF sG sH _ A1.out (by first|assumption|exact GW.below hG (by first|exact HB.out|assumption|(repeat (first|(with_reducible first|exact HB.out|apply ay|apply aj|apply av)|exact HB.out)))|exact GW.drawn hG (by first|assumption|(repeat (first|exact Drawn0.refl _|assumption|apply Drawn0.step))))).mono ?_);rintro e w6 ⟨rfl,hb⟩;refine ⟨_,rfl,?_⟩;have sJ:=Aside0.mk (aH (by repeat (first|(with_reducible first|exact HB.out|apply ay|apply aj|apply av)|exact HB.out)) hb);clear HB;have HB:=sJ;clear sJ;(try clear hb);(try clear hb2);(try clear hk);(try clear hi))|(go_at_call 60;(with_reducible refine (fE.calls (⟨#[97,34,10]⟩ : ByteArray) sI _ A5.out).mono ?_);rintro e w7 ⟨rfl,hb⟩;have sJ:=Aside0.mk (aH (by repeat (first|(with_reducible first|exact HB.out|apply ay|apply aj|apply av)|exact HB.out)) hb);clear HB;have HB:=sJ;clear sJ;(try clear hb);(try clear hb2);(try clear hk);(try clear hi)))
    go_ret
    exact ⟨by first|rfl|(simp [aP,aQ] <;> rfl)|(simp [*,aP,aQ] <;> rfl),by repeat (first|(with_reducible first|exact HB.out|apply ay|apply aj|apply av)|exact HB.out)⟩
   ·rw [if_neg c4] at H
    have c4b0 : (sH == 0) = false:=beq_eq_false_iff_ne.mpr c4
    have c4b1 : (sH != 0) = true:=bne_iff_ne.mpr c4
    obtain rfl:=Option.some.inj H
    go_enter Tryd.func32,Tryd.ntmps32
    go_wp2_with (first|((with_reducible refine aM (f:=59) rfl ?_);refine bE (some 5) rfl rfl Tryd.func59 (by kernel_rfl) rfl #[.string (⟨#[34,92,117,48,48,101,57,34]⟩ : ByteArray)] rfl (by (try simp only [List.map_toArray,List.map_cons,List.map_nil]);first|done|rfl|(simp only [List.length_drop,List.length_take];rfl)|(simp (disch:=first|omega|(simp at *;omega)) only [bF,bg,bU];rfl)) ?_;(with_reducible refine (bT.calls k (⟨#[34,92,117,48,48,101,57,34]⟩ : ByteArray) sF sG sH _ A1.out (by first|assumption|exact GW.below hG (by first|exact HB.out|assumption|(repeat (first|(with_reducible first|exact HB.out|apply ay|apply aj|apply av)|exact HB.out)))|exact GW.drawn hG (by first|assumption|(repeat (first|exact Drawn0.refl _|assumption|apply Drawn0.step))))).mono ?_);rintro e w8 ⟨rfl,hb⟩;refine ⟨_,rfl,?_⟩;have sJ:=Aside0.mk (aH (by repeat (first|(with_reducible first|exact HB.out|apply ay|apply aj|apply av)|exact HB.out)) hb);clear HB;have HB:=sJ;clear sJ;(try clear hb);(try clear hb2);(try clear hk);(try clear hi)))
    go_ret
    exact ⟨by first|rfl|(simp [aP,aQ] <;> rfl)|(simp [*,aP,aQ] <;> rfl),by repeat (first|(with_reducible first|exact HB.out|apply ay|apply aj|apply av)|exact HB.out)⟩
  ·rw [if_neg c3] at H
   have c3b0 : (sG == 8) = false:=beq_eq_false_iff_ne.mpr c3
   have c3b1 : (sG != 8) = true:=bne_iff_ne.mpr c3
   obtain rfl:=Option.some.inj H
   go_enter Tryd.func32,Tryd.ntmps32
   go_wp2_with (first|((with_reducible refine aM (f:=59) rfl ?_);refine bE (some 5) rfl rfl Tryd.func59 (by kernel_rfl) rfl #[.string (⟨#[34,92,117,48,48,101,57,34]⟩ : ByteArray)] rfl (by (try simp only [List.map_toArray,List.map_cons,List.map_nil]);first|done|rfl|(simp only [List.length_drop,List.length_take];rfl)|(simp (disch:=first|omega|(simp at *;omega)) only [bF,bg,bU];rfl)) ?_;(with_reducible refine (bT.calls k (⟨#[34,92,117,48,48,101,57,34]⟩ : ByteArray) sF sG sH _ A1.out (by first|assumption|exact GW.below hG (by first|exact HB.out|assumption|(repeat (first|(with_reducible first|exact HB.out|apply ay|apply aj|apply av)|exact HB.out)))|exact GW.drawn hG (by first|assumption|(repeat (first|exact Drawn0.refl _|assumption|apply Drawn0.step))))).mono ?_);rintro e w9 ⟨rfl,hb⟩;refine ⟨_,rfl,?_⟩;have sJ:=Aside0.mk (aH (by repeat (first|(with_reducible first|exact HB.out|apply ay|apply aj|apply av)|exact HB.out)) hb);clear HB;have HB:=sJ;clear sJ;(try clear hb);(try clear hb2);(try clear hk);(try clear hi)))
   go_ret
   exact ⟨by first|rfl|(simp [aP,aQ] <;> rfl)|(simp [*,aP,aQ] <;> rfl),by repeat (first|(with_reducible first|exact HB.out|apply ay|apply aj|apply av)|exact HB.out)⟩
 ·rw [if_neg c2] at H
  have c2b0 : (sF.toList == ([195,169] : List UInt8)) = false:=beq_eq_false_iff_ne.mpr c2
  have c2b1 : (sF.toList != ([195,169] : List UInt8)) = true:=bne_iff_ne.mpr c2
  obtain rfl:=Option.some.inj H
  go_enter Tryd.func32,Tryd.ntmps32
  go_wp2_with (first|((with_reducible refine aM (f:=59) rfl ?_);refine bE (some 5) rfl rfl Tryd.func59 (by kernel_rfl) rfl #[.string (⟨#[34,92,117,48,48,101,57,34]⟩ : ByteArray)] rfl (by (try simp only [List.map_toArray,List.map_cons,List.map_nil]);first|done|rfl|(simp only [List.length_drop,List.length_take];rfl)|(simp (disch:=first|omega|(simp at *;omega)) only [bF,bg,bU];rfl)) ?_;(with_reducible refine (bT.calls k (⟨#[34,92,117,48,48,101,57,34]⟩ : ByteArray) sF sG sH _ A1.out (by first|assumption|exact GW.below hG (by first|exact HB.out|assumption|(repeat (first|(with_reducible first|exact HB.out|apply ay|apply aj|apply av)|exact HB.out)))|exact GW.drawn hG (by first|assumption|(repeat (first|exact Drawn0.refl _|assumption|apply Drawn0.step))))).mono ?_);rintro e sN ⟨rfl,hb⟩;refine ⟨_,rfl,?_⟩;have sJ:=Aside0.mk (aH (by repeat (first|(with_reducible first|exact HB.out|apply ay|apply aj|apply av)|exact HB.out)) hb);clear HB;have HB:=sJ;clear sJ;(try clear hb);(try clear hb2);(try clear hk);(try clear hi)))
  go_ret
  exact ⟨by first|rfl|(simp [aP,aQ] <;> rfl)|(simp [*,aP,aQ] <;> rfl),by repeat (first|(with_reducible first|exact HB.out|apply ay|apply aj|apply av)|exact HB.out)⟩
end Go.Proofs.YtpflenjhmeaeoaaDoor.GUt
