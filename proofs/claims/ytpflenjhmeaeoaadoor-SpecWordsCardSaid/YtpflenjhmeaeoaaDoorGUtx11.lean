/- Written by this session's own program (wip/gen.py) out of the translation: plain Lean functions of the Go functions, and proofs that the calls come to their answers. No conditions beside those in the statements. -/
import Derived.Test.YtpflenjhmeaeoaaDoorGUtx0
import Derived.Test.YtpflenjhmeaeoaaDoorGUtx10
import Derived.Test.YtpflenjhmeaeoaaDoorGUtWords
namespace Go.Proofs.YtpflenjhmeaeoaaDoor.GUt
open Go.RowKit Go.Proofs.YtpflenjhmeaeoaaDoorW.PrintWords Go.Proofs.YtpflenjhmeaeoaaDoorW.PrintLast Go.Proofs.YtpflenjhmeaeoaaDoorW.PrintMore
attribute [local go_sem] dS dU eG eH dI dJ dV dW
set_option linter.unusedVariables false
set_option linter.unusedSimpArgs false
def dn.f (k : Nat) (a0 : ByteArray) : Option (Int × Bool):=(dL.f).bind fun t160=>((aG.f k t160 a0).bind fun sD=>(some (mx sD 0,decide (sD ≥ 0))))
theorem dn.mono : ∀ a0 k,LeO (dn.f k a0) (dn.f (k + 1) a0):=by
 intro a0 k
 unfold dn.f
 repeat' first
   | (with_reducible exact aG.mono _ _ _)
   | (with_reducible exact LeO.refl _)
   | (with_reducible exact LeO.none _)
   | (with_reducible refine LeO.ite ?_ ?_)
   | (with_reducible refine LeO.bind ?_ (fun _=>?_))
   | exact aG.mono _ _ _
   | exact LeO.none _
   | refine LeO.ite ?_ ?_
   | refine LeO.bind ?_ (fun _=>?_)
set_option maxHeartbeats 8000000 in
set_option maxRecDepth 100000 in
theorem dn.calls (k : Nat) (a0 : ByteArray) (r1 : Int) (r2 : Bool) (w : World) (h : dn.f k a0 = some (r1,r2)) :
  Calls Tryd.prog 16 #[.string a0] w fun e w'=>e = .returned (.tuple #[.int .i64 r1,.bool r2]) ∧ Below w.heap.size w w':=by
 have HB:=Aside0.mk (Below.refl w.heap.size w)
 have H : ((dL.f).bind fun t160=>((aG.f k t160 a0).bind fun sD=>(some (mx sD 0,decide (sD ≥ 0))))) = some (r1,r2):=h
 clear h
 replace H:=Option.bind_eq_some_iff.mp H
 obtain ⟨t160,sM,H⟩:=H
 replace H : ((aG.f k t160 a0).bind fun sD=>(some (mx sD 0,decide (sD ≥ 0)))) = some (r1,r2):=H
 have A2:=Aside0.mk sM
 clear sM
 replace H:=Option.bind_eq_some_iff.mp H
 obtain ⟨sD,sN,H⟩:=H
 replace H : (some (mx sD 0,decide (sD ≥ 0))) = some (r1,r2):=H
 have A3:=Aside0.mk sN
 clear sN
 obtain ⟨sK,sF⟩ : ∃ j_ : Int,(mx sD 0) = j_:=⟨_,rfl⟩
 replace H : (some (sK,decide (sD ≥ 0))) = some (r1,r2):=by first|(rw [sF] at H;exact H)|(simp only [sF] at H ⊢;exact H)
 (try rw [sF] at A2)
 (try rw [sF] at A3)
 (try (have hji4l : 0 ≤ sK:=by (rw [← sF];unfold mx;(repeat' split) <;> omega)))
 (try (have hji4m : 0 ≤ sK:=by omega))
 have sO : (if sD < 0 then 0 else sD) = sK:=sF
 simp only [Option.some.injEq,Prod.mk.injEq] at H
 obtain ⟨rfl,rfl⟩:=H
 go_enter Tryd.func16,Tryd.ntmps16
 go_wp2_with (first|((with_reducible refine aM (f:=54) rfl ?_);refine bE (some 5) rfl rfl Tryd.func54 (by kernel_rfl) rfl #[] rfl (by (try simp only [List.map_toArray,List.map_cons,List.map_nil]);first|done|rfl|(simp only [List.length_drop,List.length_take];rfl)|(simp (disch:=first|omega|(simp at *;omega)) only [bF,bg,bU];rfl)) ?_;(with_reducible refine (dL.calls  t160 _ A2.out).mono ?_);rintro e w5 ⟨sW,rfl,ho0,hb⟩;refine ⟨_,rfl,?_⟩;have sP:=Aside0.mk (Kd.fu (Kd.dG (ok':=fun k_=>True) ho0 (fun k_ hk_=>trivial)) (aU (by repeat (first|(with_reducible first|exact HB.out|apply ay|apply aj|apply av)|exact HB.out))));have sQ:=Aside0.mk (aH (by repeat (first|(with_reducible first|exact HB.out|apply ay|apply aj|apply av)|exact HB.out)) hb);clear HB;have sG:=sP;have HB:=sQ;clear sP sQ;(try clear hb);(try clear hb2);(try clear hk);(try clear hi);(try clear ho0);obtain ⟨sS,sU,sV⟩:=Kd.eP sG.out;subst sV)|((with_reducible refine aM (f:=53) rfl ?_);refine bE (some 7) rfl rfl Tryd.func53 (by kernel_rfl) rfl #[.slice sS t160.length sU,.string a0] rfl (by (try simp only [List.map_toArray,List.map_cons,List.map_nil]);first|done|rfl|(simp only [List.length_drop,List.length_take];rfl)|(simp (disch:=first|omega|(simp at *;omega)) only [bF,bg,bU];rfl)) ?_;(with_reducible refine (aG.calls k _ _ t160 a0 sD _ ?sH ?sI A3.out).mono ?_);(case sH=>repeat (first|exact (Kd.bY sG.out).2.2|(with_reducible refine Kd.bP ?_ _)|(with_reducible refine Kd.bQ ?_ _)|(with_reducible refine Kd.cB ?_)));(case sI=>exact (Kd.bY sG.out).2.1);rintro e w' ⟨rfl,⟨nd,rfl⟩⟩;refine ⟨_,rfl,?_⟩))
 go_ret2
 exact ⟨by first|rfl|(simp [aP,aQ] <;> rfl)|(simp only [← sF];first|rfl|(simp [aP,aQ] <;> rfl))|(simp [*,aP,aQ] <;> rfl),by repeat (first|(with_reducible first|exact HB.out|apply ay|apply aj|apply av)|exact HB.out)⟩
def dB.f (k : Nat) (a0 : ByteArray) : Option (Int × Bool):=(dY.f).bind fun t164=>((aG.f k t164 a0).bind fun t167=>(some (mx t167 0,decide (t167 ≥ 0))))
theorem dB.mono : ∀ a0 k,LeO (dB.f k a0) (dB.f (k + 1) a0):=by
 intro a0 k
 unfold dB.f
 repeat' first
   | (with_reducible exact aG.mono _ _ _)
   | (with_reducible exact LeO.refl _)
   | (with_reducible exact LeO.none _)
   | (with_reducible refine LeO.ite ?_ ?_)
   | (with_reducible refine LeO.bind ?_ (fun _=>?_))
   | exact aG.mono _ _ _
   | exact LeO.none _
   | refine LeO.ite ?_ ?_
   | refine LeO.bind ?_ (fun _=>?_)
set_option maxHeartbeats 8000000 in
set_option maxRecDepth 100000 in
theorem dB.calls (k : Nat) (a0 : ByteArray) (r1 : Int) (r2 : Bool) (w : World) (h : dB.f k a0 = some (r1,r2)) :
  Calls Tryd.prog 17 #[.string a0] w fun e w'=>e = .returned (.tuple #[.int .i64 r1,.bool r2]) ∧ Below w.heap.size w w':=by
 have HB:=Aside0.mk (Below.refl w.heap.size w)
 have H : ((dY.f).bind fun t164=>((aG.f k t164 a0).bind fun t167=>(some (mx t167 0,decide (t167 ≥ 0))))) = some (r1,r2):=h
 clear h
 replace H:=Option.bind_eq_some_iff.mp H
 obtain ⟨t164,sM,H⟩:=H
 replace H : ((aG.f k t164 a0).bind fun t167=>(some (mx t167 0,decide (t167 ≥ 0)))) = some (r1,r2):=H
 have A2:=Aside0.mk sM
 clear sM
 replace H:=Option.bind_eq_some_iff.mp H
 obtain ⟨t167,sN,H⟩:=H
 replace H : (some (mx t167 0,decide (t167 ≥ 0))) = some (r1,r2):=H
 have A3:=Aside0.mk sN
 clear sN
 obtain ⟨sK,sF⟩ : ∃ j_ : Int,(mx t167 0) = j_:=⟨_,rfl⟩
 replace H : (some (sK,decide (t167 ≥ 0))) = some (r1,r2):=by first|(rw [sF] at H;exact H)|(simp only [sF] at H ⊢;exact H)
 (try rw [sF] at A2)
 (try rw [sF] at A3)
 (try (have hji4l : 0 ≤ sK:=by (rw [← sF];unfold mx;(repeat' split) <;> omega)))
 (try (have hji4m : 0 ≤ sK:=by omega))
 have sO : (if t167 < 0 then 0 else t167) = sK:=sF
 simp only [Option.some.injEq,Prod.mk.injEq] at H
 obtain ⟨rfl,rfl⟩:=H
 go_enter Tryd.func17,Tryd.ntmps17
 go_wp2_with (first|((with_reducible refine aM (f:=55) rfl ?_);refine bE (some 5) rfl rfl Tryd.func55 (by kernel_rfl) rfl #[] rfl (by (try simp only [List.map_toArray,List.map_cons,List.map_nil]);first|done|rfl|(simp only [List.length_drop,List.length_take];rfl)|(simp (disch:=first|omega|(simp at *;omega)) only [bF,bg,bU];rfl)) ?_;(with_reducible refine (dY.calls  t164 _ A2.out).mono ?_);rintro e w5 ⟨sZ,rfl,ho0,hb⟩;refine ⟨_,rfl,?_⟩;have sP:=Aside0.mk (Kd.fu (Kd.dG (ok':=fun k_=>True) ho0 (fun k_ hk_=>trivial)) (aU (by repeat (first|(with_reducible first|exact HB.out|apply ay|apply aj|apply av)|exact HB.out))));have sQ:=Aside0.mk (aH (by repeat (first|(with_reducible first|exact HB.out|apply ay|apply aj|apply av)|exact HB.out)) hb);clear HB;have sJ:=sP;have HB:=sQ;clear sP sQ;(try clear hb);(try clear hb2);(try clear hk);(try clear hi);(try clear ho0);obtain ⟨sS,sU,sV⟩:=Kd.eP sJ.out;subst sV)|((with_reducible refine aM (f:=53) rfl ?_);refine bE (some 7) rfl rfl Tryd.func53 (by kernel_rfl) rfl #[.slice sS t164.length sU,.string a0] rfl (by (try simp only [List.map_toArray,List.map_cons,List.map_nil]);first|done|rfl|(simp only [List.length_drop,List.length_take];rfl)|(simp (disch:=first|omega|(simp at *;omega)) only [bF,bg,bU];rfl)) ?_;(with_reducible refine (aG.calls k _ _ t164 a0 t167 _ ?sH ?sI A3.out).mono ?_);(case sH=>repeat (first|exact (Kd.bY sJ.out).2.2|(with_reducible refine Kd.bP ?_ _)|(with_reducible refine Kd.bQ ?_ _)|(with_reducible refine Kd.cB ?_)));(case sI=>exact (Kd.bY sJ.out).2.1);rintro e w' ⟨rfl,⟨nd,rfl⟩⟩;refine ⟨_,rfl,?_⟩))
 go_ret2
 exact ⟨by first|rfl|(simp [aP,aQ] <;> rfl)|(simp only [← sF];first|rfl|(simp [aP,aQ] <;> rfl))|(simp [*,aP,aQ] <;> rfl),by repeat (first|(with_reducible first|exact HB.out|apply ay|apply aj|apply av)|exact HB.out)⟩
end Go.Proofs.YtpflenjhmeaeoaaDoor.GUt
