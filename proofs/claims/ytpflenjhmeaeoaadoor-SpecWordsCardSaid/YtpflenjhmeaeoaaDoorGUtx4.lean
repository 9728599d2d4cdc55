/- Written by this session's own program (wip/gen.py) out of the translation: plain Lean functions of the Go functions, and proofs that the calls come to their answers. No conditions beside those in the statements. -/
import Derived.Test.YtpflenjhmeaeoaaDoorGUtx0
import Derived.Test.YtpflenjhmeaeoaaDoorGUtValid
import Derived.Test.YtpflenjhmeaeoaaDoorGW
namespace Go.Proofs.YtpflenjhmeaeoaaDoor.GUt
open Go.RowKit Go.Proofs.YtpflenjhmeaeoaaDoorW.PrintWords Go.Proofs.YtpflenjhmeaeoaaDoorW.PrintLast Go.Proofs.YtpflenjhmeaeoaaDoorW.PrintMore
attribute [local go_sem] dS dU eG eH dI dJ dV dW
set_option linter.unusedVariables false
set_option linter.unusedSimpArgs false
def fM.f (a0 : ByteArray) : Option (Bool):=(utf8_ValidString.f a0).bind fun sD=>(some sD)
set_option maxHeartbeats 8000000 in
set_option maxRecDepth 100000 in
theorem fM.calls (a0 : ByteArray) (r : Bool) (w : World) (h : fM.f a0 = some r) (hG : GW.GW w) :
  Calls Tryd.prog 89 #[.string a0] w fun e w'=>e = .returned (.bool r) ∧ Below w.heap.size w w':=by
 have HB:=Aside0.mk (Below.refl w.heap.size w)
 have H : ((utf8_ValidString.f a0).bind fun sD=>(some sD)) = some r:=h
 clear h
 replace H:=Option.bind_eq_some_iff.mp H
 obtain ⟨sD,sF,H⟩:=H
 replace H : (some sD) = some r:=H
 have A2:=Aside0.mk sF
 clear sF
 obtain rfl:=Option.some.inj H
 go_enter Tryd.func89,Tryd.ntmps89
 go_wp2_with (first|((with_reducible refine aM (f:=106) rfl ?_);refine bE (some 4) rfl rfl Tryd.func106 (by kernel_rfl) rfl #[.string a0] rfl (by (try simp only [List.map_toArray,List.map_cons,List.map_nil]);first|done|rfl|(simp only [List.length_drop,List.length_take];rfl)|(simp (disch:=first|omega|(simp at *;omega)) only [bF,bg,bU];rfl)) ?_;(with_reducible refine (utf8_ValidString.calls a0 sD _ A2.out (by first|assumption|exact GW.below hG (by first|exact HB.out|assumption|(repeat (first|(with_reducible first|exact HB.out|apply ay|apply aj|apply av)|exact HB.out)))|exact GW.drawn hG (by first|assumption|(repeat (first|exact Drawn0.refl _|assumption|apply Drawn0.step))))).mono ?_);rintro e w3 ⟨rfl,hb⟩;refine ⟨_,rfl,?_⟩;have sG:=Aside0.mk (aH (by repeat (first|(with_reducible first|exact HB.out|apply ay|apply aj|apply av)|exact HB.out)) hb);clear HB;have HB:=sG;clear sG;(try clear hb);(try clear hb2);(try clear hk);(try clear hi)))
 go_ret
 exact ⟨by first|rfl|(simp [aP,aQ] <;> rfl)|(simp [*,aP,aQ] <;> rfl),by repeat (first|(with_reducible first|exact HB.out|apply ay|apply aj|apply av)|exact HB.out)⟩
end Go.Proofs.YtpflenjhmeaeoaaDoor.GUt
