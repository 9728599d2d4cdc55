/- Written by this session's own program (wip/gen.py) out of the translation: plain Lean functions of the Go functions, and proofs that the calls come to their answers. No conditions beside those in the statements. -/
import Derived.Test.YtpflenjhmeaeoaaDoorGUtx0
import Derived.Test.YtpflenjhmeaeoaaDoorGUtx4
import Derived.Test.YtpflenjhmeaeoaaDoorGW
namespace Go.Proofs.YtpflenjhmeaeoaaDoor.GUt
open Go.RowKit Go.Proofs.YtpflenjhmeaeoaaDoorW.PrintWords Go.Proofs.YtpflenjhmeaeoaaDoorW.PrintLast Go.Proofs.YtpflenjhmeaeoaaDoorW.PrintMore
attribute [local go_sem] dS dU eG eH dI dJ dV dW
set_option linter.unusedVariables false
set_option linter.unusedSimpArgs false
def kD.f (a0 : ByteArray) : Option (Int):=(fM.f a0).bind fun sD=>(if sD = true then (if (a0.size : Int) > 4096 then (some 2) else (some 0)) else (some 10))
set_option maxHeartbeats 8000000 in
set_option maxRecDepth 100000 in
theorem kD.calls (a0 : ByteArray) (r : Int) (w : World) (h : kD.f a0 = some r) (hG : GW.GW w) :
  Calls Tryd.prog 67 #[.string a0] w fun e w'=>e = .returned (.int .i64 r) ∧ Below w.heap.size w w':=by
 have HB:=Aside0.mk (Below.refl w.heap.size w)
 have H : ((fM.f a0).bind fun sD=>(if sD = true then (if (a0.size : Int) > 4096 then (some 2) else (some 0)) else (some 10))) = some r:=h
 clear h
 replace H:=Option.bind_eq_some_iff.mp H
 obtain ⟨sD,sG,H⟩:=H
 replace H : (if sD = true then (if (a0.size : Int) > 4096 then (some 2) else (some 0)) else (some 10)) = some r:=H
 have A2:=Aside0.mk sG
 clear sG
 by_cases c3 : sD = true
 ·subst c3
  have H1 : (if (a0.size : Int) > 4096 then (some 2) else (some 0)) = some r:=by rw [if_pos rfl] at H;exact H
  clear H
  have H:=H1
  clear H1
  by_cases c4 : (a0.size : Int) > 4096
  ·rw [if_pos c4] at H
   have c4b0 : decide (4096 < (a0.size : Int)) = true:=decide_eq_true c4
   have c4b1 : decide (4096 < a0.size) = true:=decide_eq_true (by omega)
   clear c4
   obtain rfl:=Option.some.inj H
   go_enter Tryd.func67,Tryd.ntmps67
   go_wp2_with (first|((with_reducible refine aM (f:=89) rfl ?_);refine bE (some 5) rfl rfl Tryd.func89 (by kernel_rfl) rfl #[.string a0] rfl (by (try simp only [List.map_toArray,List.map_cons,List.map_nil]);first|done|rfl|(simp only [List.length_drop,List.length_take];rfl)|(simp (disch:=first|omega|(simp at *;omega)) only [bF,bg,bU];rfl)) ?_;(with_reducible refine (fM.calls a0 true _ A2.out (by first|assumption|exact GW.below hG (by first|exact HB.out|assumption|(repeat (first|(with_reducible first|exact HB.out|apply ay|apply aj|apply av)|exact HB.out)))|exact GW.drawn hG (by first|assumption|(repeat (first|exact Drawn0.refl _|assumption|apply Drawn0.step))))).mono ?_);rintro e w5 ⟨rfl,hb⟩;refine ⟨_,rfl,?_⟩;have sF:=Aside0.mk (aH (by repeat (first|(with_reducible first|exact HB.out|apply ay|apply aj|apply av)|exact HB.out)) hb);clear HB;have HB:=sF;clear sF;(try clear hb);(try clear hb2);(try clear hk);(try clear hi)))
   go_ret
   exact ⟨by first|rfl|(simp [aP,aQ] <;> rfl)|(simp [*,aP,aQ] <;> rfl),by repeat (first|(with_reducible first|exact HB.out|apply ay|apply aj|apply av)|exact HB.out)⟩
  ·rw [if_neg c4] at H
   have c4b0 : decide (4096 < (a0.size : Int)) = false:=decide_eq_false c4
   have c4b1 : decide (4096 < a0.size) = false:=decide_eq_false (by omega)
   clear c4
   obtain rfl:=Option.some.inj H
   go_enter Tryd.func67,Tryd.ntmps67
   go_wp2_with (first|((with_reducible refine aM (f:=89) rfl ?_);refine bE (some 5) rfl rfl Tryd.func89 (by kernel_rfl) rfl #[.string a0] rfl (by (try simp only [List.map_toArray,List.map_cons,List.map_nil]);first|done|rfl|(simp only [List.length_drop,List.length_take];rfl)|(simp (disch:=first|omega|(simp at *;omega)) only [bF,bg,bU];rfl)) ?_;(with_reducible refine (fM.calls a0 true _ A2.out (by first|assumption|exact GW.below hG (by first|exact HB.out|assumption|(repeat (first|(with_reducible first|exact HB.out|apply ay|apply aj|apply av)|exact HB.out)))|exact GW.drawn hG (by first|assumption|(repeat (first|exact Drawn0.refl _|assumption|apply Drawn0.step))))).mono ?_);rintro e w6 ⟨rfl,hb⟩;refine ⟨_,rfl,?_⟩;have sF:=Aside0.mk (aH (by repeat (first|(with_reducible first|exact HB.out|apply ay|apply aj|apply av)|exact HB.out)) hb);clear HB;have HB:=sF;clear sF;(try clear hb);(try clear hb2);(try clear hk);(try clear hi)))
   go_ret
   exact ⟨by first|rfl|(simp [aP,aQ] <;> rfl)|(simp [*,aP,aQ] <;> rfl),by repeat (first|(with_reducible first|exact HB.out|apply ay|apply aj|apply av)|exact HB.out)⟩
 ·replace c3:=Bool.eq_false_iff.mpr c3
  subst c3
  have H1 : (some 10) = some r:=by rw [if_neg (show ¬ (false = true) by decide)] at H;exact H
  clear H
  have H:=H1
  clear H1
  obtain rfl:=Option.some.inj H
  go_enter Tryd.func67,Tryd.ntmps67
  go_wp2_with (first|((with_reducible refine aM (f:=89) rfl ?_);refine bE (some 5) rfl rfl Tryd.func89 (by kernel_rfl) rfl #[.string a0] rfl (by (try simp only [List.map_toArray,List.map_cons,List.map_nil]);first|done|rfl|(simp only [List.length_drop,List.length_take];rfl)|(simp (disch:=first|omega|(simp at *;omega)) only [bF,bg,bU];rfl)) ?_;(with_reducible refine (fM.calls a0 false _ A2.out (by first|assumption|exact GW.below hG (by first|exact HB.out|assumption|(repeat (first|(with_reducible first|exact HB.out|apply ay|apply aj|apply av)|exact HB.out)))|exact GW.drawn hG (by first|assumption|(repeat (first|exact Drawn0.refl _|assumption|apply Drawn0.step))))).mono ?_);rintro e w7 ⟨rfl,hb⟩;refine ⟨_,rfl,?_⟩;have sF:=Aside0.mk (aH (by repeat (first|(with_reducible first|exact HB.out|apply ay|apply aj|apply av)|exact HB.out)) hb);clear HB;have HB:=sF;clear sF;(try clear hb);(try clear hb2);(try clear hk);(try clear hi)))
  go_ret
  exact ⟨by first|rfl|(simp [aP,aQ] <;> rfl)|(simp [*,aP,aQ] <;> rfl),by repeat (first|(with_reducible first|exact HB.out|apply ay|apply aj|apply av)|exact HB.out)⟩
end Go.Proofs.YtpflenjhmeaeoaaDoor.GUt
