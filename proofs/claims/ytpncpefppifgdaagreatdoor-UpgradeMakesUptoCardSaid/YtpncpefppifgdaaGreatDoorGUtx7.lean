/- Written by this session's own program (wip/gen.py) out of the translation: plain Lean functions of the Go functions, and proofs that the calls come to their answers. No conditions beside those in the statements. -/
import Derived.Test.YtpncpefppifgdaaGreatDoorGUtx0
import Derived.Test.YtpncpefppifgdaaGreatDoorGUtQuote
import Derived.Test.YtpncpefppifgdaaGreatDoorGUtUnq
import Derived.Test.YtpncpefppifgdaaGreatDoorGW
namespace Go.Proofs.YtpncpefppifgdaaGreatDoor.GUt
open Go.RowKit Go.Proofs.YtpncpefppifgdaaGreatDoorW.PrintWords Go.Proofs.YtpncpefppifgdaaGreatDoorW.PrintLast Go.Proofs.YtpncpefppifgdaaGreatDoorW.PrintMore
attribute [local go_sem] fZ gq gM gN fM fO gu gD
set_option linter.unusedVariables false
set_option linter.unusedSimpArgs false
def dY.f (k : Nat)  : Option (Bool):=(dO.f k (⟨#[34,92,117,48,48,101,57,34]⟩ : ByteArray)).bind fun Bu=>(if Bu.1.toList = ([195,169] : List UInt8) then (if Bu.2.1 = 8 then (if Bu.2.2 = 0 then ((iZ.f (⟨#[97,34,10]⟩ : ByteArray)).bind fun Bw=>(some (Bw.toList == ([34,97,92,34,92,110,34] : List UInt8)))) else (some false)) else (some false)) else (some false))
theorem dY.mono : ∀ k,LeO (dY.f k ) (dY.f (k + 1) ):=by
 intro  k
 unfold dY.f
 repeat' first
   | (with_reducible exact dO.mono _ _)
   | (with_reducible exact LeO.refl _)
   | (with_reducible exact LeO.none _)
   | (with_reducible refine LeO.ite ?_ ?_)
   | (with_reducible refine LeO.bind ?_ (fun _=>?_))
   | exact dO.mono _ _
   | exact LeO.none _
   | refine LeO.ite ?_ ?_
   | refine LeO.bind ?_ (fun _=>?_)
set_option maxHeartbeats 8000000 in
set_option maxRecDepth 100000 in
theorem dY.calls (k : Nat)  (r : Bool) (w : World) (h : dY.f k  = some r) (hG : GW.GW w) :
  Calls Tryz.prog 82 #[] w fun e w'=>e = .returned (.bool r) ∧ Below w.heap.size w w':=by
 have HB:=Aside0.mk (Below.refl w.heap.size w)
 have H : ((dO.f k (⟨#[34,92,117,48,48,101,57,34]⟩ : ByteArray)).bind fun Bu=>(if Bu.1.toList = ([195,169] : List UInt8) then (if Bu.2.1 = 8 then (if Bu.2.2 = 0 then ((iZ.f (⟨#[97,34,10]⟩ : ByteArray)).bind fun Bw=>(some (Bw.toList == ([34,97,92,34,92,110,34] : List UInt8)))) else (some false)) else (some false)) else (some false))) = some r:=h
 clear h
 replace H:=Option.bind_eq_some_iff.mp H
 obtain ⟨⟨t139,Bv,t141⟩,BD,H⟩:=H
 replace H : (if t139.toList = ([195,169] : List UInt8) then (if Bv = 8 then (if t141 = 0 then ((iZ.f (⟨#[97,34,10]⟩ : ByteArray)).bind fun Bw=>(some (Bw.toList == ([34,97,92,34,92,110,34] : List UInt8)))) else (some false)) else (some false)) else (some false)) = some r:=H
 have A1:=Aside0.mk BD
 clear BD
 by_cases c2 : t139.toList = ([195,169] : List UInt8)
 ·rw [if_pos c2] at H
  have c2b0 : (t139.toList == ([195,169] : List UInt8)) = true:=beq_iff_eq.mpr c2
  have c2b1 : (t139.toList != ([195,169] : List UInt8)) = false:=bne_eq_false_iff_eq.mpr c2
  clear c2
  by_cases c3 : Bv = 8
  ·rw [if_pos c3] at H
   have c3b0 : (Bv == 8) = true:=beq_iff_eq.mpr c3
   have c3b1 : (Bv != 8) = false:=bne_eq_false_iff_eq.mpr c3
   clear c3
   by_cases c4 : t141 = 0
   ·rw [if_pos c4] at H
    have c4b0 : (t141 == 0) = true:=beq_iff_eq.mpr c4
    have c4b1 : (t141 != 0) = false:=bne_eq_false_iff_eq.mpr c4
    clear c4
    replace H:=Option.bind_eq_some_iff.mp H
    obtain ⟨Bw,BF,H⟩:=H
    replace H : (some (Bw.toList == ([34,97,92,34,92,110,34] : List UInt8))) = some r:=H
    have A5:=Aside0.mk BF
    clear BF
    obtain rfl:=Option.some.inj H
    go_enter Tryz.func82,Tryz.ntmps82
    go_wp2_with (first|((with_reducible refine bO (f:=102) rfl ?_);refine dZ (some 5) rfl rfl Tryz.func102 (by kernel_rfl) rfl #[.string (⟨#[34,92,117,48,48,101,57,34]⟩ : ByteArray)] rfl (by (try simp only [List.map_toArray,List.map_cons,List.map_nil]);first|done|rfl|(simp only [List.length_drop,List.length_take];rfl)|(simp (disch:=first|omega|(simp at *;omega)) only [eu,dD,fA];rfl)) ?_;(with_reducible refine (dO.calls k (⟨#[34,92,117,48,48,101,57,34]⟩ : ByteArray) t139 Bv t141 _ A1.out (by first|assumption|exact GW.below hG (by first|exact HB.out|assumption|(repeat (first|(with_reducible first|exact HB.out|apply bW|apply aV|apply bF)|exact HB.out)))|exact GW.drawn hG (by first|assumption|(repeat (first|exact Drawn0.refl _|assumption|apply Drawn0.step))))).mono ?_);rintro e w6 ⟨rfl,hb⟩;refine ⟨_,rfl,?_⟩;have Bz:=Aside0.mk (aN (by repeat (first|(with_reducible first|exact HB.out|apply bW|apply aV|apply bF)|exact HB.out)) hb);clear HB;have HB:=Bz;clear Bz;(try clear hb);(try clear hb2);(try clear hk);(try clear hi))|(go_at_call 103;(with_reducible refine (iZ.calls (⟨#[97,34,10]⟩ : ByteArray) Bw _ A5.out).mono ?_);rintro e w7 ⟨rfl,hb⟩;have Bz:=Aside0.mk (aN (by repeat (first|(with_reducible first|exact HB.out|apply bW|apply aV|apply bF)|exact HB.out)) hb);clear HB;have HB:=Bz;clear Bz;(try clear hb);(try clear hb2);(try clear hk);(try clear hi)))
    go_ret
    exact ⟨by first|rfl|(simp [bB,bC] <;> rfl)|(simp [*,bB,bC] <;> rfl),by repeat (first|(with_reducible first|exact HB.out|apply bW|apply aV|apply bF)|exact HB.out)⟩
   ·rw [if_neg c4] at H
    have c4b0 : (t141 == 0) = false:=beq_eq_false_iff_ne.mpr c4
    have c4b1 : (t141 != 0) = true:=bne_iff_ne.mpr c4
    obtain rfl:=Option.some.inj H
    go_enter Tryz.func82,Tryz.ntmps82
    go_wp2_with (first|((with_reducible refine bO (f:=102) rfl ?_);refine dZ (some 5) rfl rfl Tryz.func102 (by kernel_rfl) rfl #[.string (⟨#[34,92,117,48,48,101,57,34]⟩ : ByteArray)] rfl (by (try simp only [List.map_toArray,List.map_cons,List.map_nil]);first|done|rfl|(simp only [List.length_drop,List.length_take];rfl)|(simp (disch:=first|omega|(simp at *;omega)) only [eu,dD,fA];rfl)) ?_;(with_reducible refine (dO.calls k (⟨#[34,92,117,48,48,101,57,34]⟩ : ByteArray) t139 Bv t141 _ A1.out (by first|assumption|exact GW.below hG (by first|exact HB.out|assumption|(repeat (first|(with_reducible first|exact HB.out|apply bW|apply aV|apply bF)|exact HB.out)))|exact GW.drawn hG (by first|assumption|(repeat (first|exact Drawn0.refl _|assumption|apply Drawn0.step))))).mono ?_);rintro e w8 ⟨rfl,hb⟩;refine ⟨_,rfl,?_⟩;have Bz:=Aside0.mk (aN (by repeat (first|(with_reducible first|exact HB.out|apply bW|apply aV|apply bF)|exact HB.out)) hb);clear HB;have HB:=Bz;clear Bz;(try clear hb);(try clear hb2);(try clear hk);(try clear hi)))
    go_ret
    exact ⟨by first|rfl|(simp [bB,bC] <;> rfl)|(simp [*,bB,bC] <;> rfl),by repeat (first|(with_reducible first|exact HB.out|apply bW|apply aV|apply bF)|exact HB.out)⟩
  ·rw [if_neg c3] at H
   have c3b0 : (Bv == 8) = false:=beq_eq_false_iff_ne.mpr c3
   have c3b1 : (Bv != 8) = true:=bne_iff_ne.mpr c3
   obtain rfl:=Option.some.inj H
   go_enter Tryz.func82,Tryz.ntmps82
   go_wp2_with (first|((with_reducible refine bO (f:=102) rfl ?_);refine dZ (some 5) rfl rfl Tryz.func102 (by kernel_rfl) rfl #[.string (⟨#[34,92,117,48,48,101,57,34]⟩ : ByteArray)] rfl (by (try simp only [List.map_toArray,List.map_cons,List.map_nil]);first|done|rfl|(simp only [List.length_drop,List.length_take];rfl)|(simp (disch:=first|omega|(simp at *;omega)) only [eu,dD,fA];rfl)) ?_;(with_reducible refine (dO.calls k (⟨#[34,92,117,48,48,101,57,34]⟩ : ByteArray) t139 Bv t141 _ A1.out (by first|assumption|exact GW.below hG (by first|exact HB.out|assumption|(repeat (first|(with_reducible first|exact HB.out|apply bW|apply aV|apply bF)|exact HB.out)))|exact GW.drawn hG (by first|assumption|(repeat (first|exact Drawn0.refl _|assumption|apply Drawn0.step))))).mono ?_);rintro e w9 ⟨rfl,hb⟩;refine ⟨_,rfl,?_⟩;have Bz:=Aside0.mk (aN (by repeat (first|(with_reducible first|exact HB.out|apply bW|apply aV|apply bF)|exact HB.out)) hb);clear HB;have HB:=Bz;clear Bz;(try clear hb);(try clear hb2);(try clear hk);(try clear hi)))
   go_ret
   exact ⟨by first|rfl|(simp [bB,bC] <;> rfl)|(simp [*,bB,bC] <;> rfl),by repeat (first|(with_reducible first|exact HB.out|apply bW|apply aV|apply bF)|exact HB.out)⟩
 ·rw [if_neg c2] at H
  have c2b0 : (t139.toList == ([195,169] : List UInt8)) = false:=beq_eq_false_iff_ne.mpr c2
  have c2b1 : (t139.toList != ([195,169] : List UInt8)) = true:=bne_iff_ne.mpr c2
  obtain rfl:=Option.some.inj H
  go_enter Tryz.func82,Tryz.ntmps82
  go_wp2_with (first|((with_reducible refine bO (f:=102) rfl ?_);refine dZ (some 5) rfl rfl Tryz.func102 (by kernel_rfl) rfl #[.string (⟨#[34,92,117,48,48,101,57,34]⟩ : ByteArray)] rfl (by (try simp only [List.map_toArray,List.map_cons,List.map_nil]);first|done|rfl|(simp only [List.length_drop,List.length_take];rfl)|(simp (disch:=first|omega|(simp at *;omega)) only [eu,dD,fA];rfl)) ?_;(with_reducible refine (dO.calls k (⟨#[34,92,117,48,48,101,57,34]⟩ : ByteArray) t139 Bv t141 _ A1.out (by first|assumption|exact GW.below hG (by first|exact HB.out|assumption|(repeat (first|(with_reducible first|exact HB.out|apply bW|apply aV|apply bF)|exact HB.out)))|exact GW.drawn hG (by first|assumption|(repeat (first|exact Drawn0.refl _|assumption|apply Drawn0.step))))).mono ?_);rintro e BG ⟨rfl,hb⟩;refine ⟨_,rfl,?_⟩;have Bz:=Aside0.mk (aN (by repeat (first|(with_reducible first|exact HB.out|apply bW|apply aV|apply bF)|exact HB.out)) hb);clear HB;have HB:=Bz;clear Bz;(try clear hb);(try clear hb2);(try clear hk);(try clear hi)))
  go_ret
  exact ⟨by first|rfl|(simp [bB,bC] <;> rfl)|(simp [*,bB,bC] <;> rfl),by repeat (first|(with_reducible first|exact HB.out|apply bW|apply aV|apply bF)|exact HB.out)⟩
end Go.Proofs.YtpncpefppifgdaaGreatDoor.GUt
