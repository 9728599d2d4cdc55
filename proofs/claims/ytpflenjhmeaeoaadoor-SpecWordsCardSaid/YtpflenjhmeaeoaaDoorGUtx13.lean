/- Written by this session's own program (wip/gen.py) out of the translation: plain Lean functions of the Go functions, and proofs that the calls come to their answers. No conditions beside those in the statements. -/
import Derived.Test.YtpflenjhmeaeoaaDoorGUtx0
import Derived.Test.YtpflenjhmeaeoaaDoorGUtx12
import Derived.Test.YtpflenjhmeaeoaaDoorGUtWords
namespace Go.Proofs.YtpflenjhmeaeoaaDoor.GUt
open Go.RowKit Go.Proofs.YtpflenjhmeaeoaaDoorW.PrintWords Go.Proofs.YtpflenjhmeaeoaaDoorW.PrintLast Go.Proofs.YtpflenjhmeaeoaaDoorW.PrintMore
attribute [local go_sem] dS dU eG eH dI dJ dV dW
set_option linter.unusedVariables false
set_option linter.unusedSimpArgs false
def dw.f (a0 : Int) : Option (ByteArray):=(dL.f).bind fun sD=>((eF.f sD a0).bind fun sF=>(some sF))
set_option maxHeartbeats 8000000 in
set_option maxRecDepth 100000 in
theorem dw.calls (a0 : Int) (r : ByteArray) (w : World) (h : dw.f a0 = some r) :
  Calls Tryd.prog 21 #[.int .i64 a0] w fun e w'=>e = .returned (.string r) ∧ Below w.heap.size w w':=by
 have HB:=Aside0.mk (Below.refl w.heap.size w)
 have H : ((dL.f).bind fun sD=>((eF.f sD a0).bind fun sF=>(some sF))) = some r:=h
 clear h
 replace H:=Option.bind_eq_some_iff.mp H
 obtain ⟨sD,sJ,H⟩:=H
 replace H : ((eF.f sD a0).bind fun sF=>(some sF)) = some r:=H
 have A2:=Aside0.mk sJ
 clear sJ
 replace H:=Option.bind_eq_some_iff.mp H
 obtain ⟨sF,sK,H⟩:=H
 replace H : (some sF) = some r:=H
 have A3:=Aside0.mk sK
 clear sK
 obtain rfl:=Option.some.inj H
 go_enter Tryd.func21,Tryd.ntmps21
 go_wp2_with (first|((with_reducible refine aM (f:=54) rfl ?_);refine bE (some 3) rfl rfl Tryd.func54 (by kernel_rfl) rfl #[] rfl (by (try simp only [List.map_toArray,List.map_cons,List.map_nil]);first|done|rfl|(simp only [List.length_drop,List.length_take];rfl)|(simp (disch:=first|omega|(simp at *;omega)) only [bF,bg,bU];rfl)) ?_;(with_reducible refine (dL.calls  sD _ A2.out).mono ?_);rintro e w4 ⟨sO,rfl,ho0,hb⟩;refine ⟨_,rfl,?_⟩;have sM:=Aside0.mk (Kd.fu (Kd.dG (ok':=fun k_=>True) ho0 (fun k_ hk_=>trivial)) (aU (by repeat (first|(with_reducible first|exact HB.out|apply ay|apply aj|apply av)|exact HB.out))));have sN:=Aside0.mk (aH (by repeat (first|(with_reducible first|exact HB.out|apply ay|apply aj|apply av)|exact HB.out)) hb);clear HB;have sG:=sM;have HB:=sN;clear sM sN;(try clear hb);(try clear hb2);(try clear hk);(try clear hi);(try clear ho0);obtain ⟨sP,sQ,sS⟩:=Kd.eP sG.out;subst sS)|((with_reducible refine aM (f:=56) rfl ?_);refine bE (some 5) rfl rfl Tryd.func56 (by kernel_rfl) rfl #[.slice sP sD.length sQ,.int .i64 a0] rfl (by (try simp only [List.map_toArray,List.map_cons,List.map_nil]);first|done|rfl|(simp only [List.length_drop,List.length_take];rfl)|(simp (disch:=first|omega|(simp at *;omega)) only [bF,bg,bU];rfl)) ?_;(with_reducible refine (eF.calls _ _ sD a0 sF _ ?sH ?sI A3.out).mono ?_);(case sH=>repeat (first|exact (Kd.bY sG.out).2.2|(with_reducible refine Kd.bP ?_ _)|(with_reducible refine Kd.bQ ?_ _)|(with_reducible refine Kd.cB ?_)));(case sI=>exact (Kd.bY sG.out).2.1);rintro e w' ⟨rfl,⟨nd,rfl⟩⟩;refine ⟨_,rfl,?_⟩))
 go_ret
 exact ⟨by first|rfl|(simp [aP,aQ] <;> rfl)|(simp [*,aP,aQ] <;> rfl),by repeat (first|(with_reducible first|exact HB.out|apply ay|apply aj|apply av)|exact HB.out)⟩
end Go.Proofs.YtpflenjhmeaeoaaDoor.GUt
