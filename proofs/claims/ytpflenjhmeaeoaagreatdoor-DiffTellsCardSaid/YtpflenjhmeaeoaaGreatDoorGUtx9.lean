/- Written by this session's own program (wip/gen.py) out of the translation: plain Lean functions of the Go functions, and proofs that the calls come to their answers. No conditions beside those in the statements. -/
import Derived.Test.YtpflenjhmeaeoaaGreatDoorGUtx0
import Derived.Test.YtpflenjhmeaeoaaGreatDoorGUtQuote
import Derived.Test.YtpflenjhmeaeoaaGreatDoorGUtUnq
import Derived.Test.YtpflenjhmeaeoaaGreatDoorGW
namespace Go.Proofs.YtpflenjhmeaeoaaGreatDoor.GUt
open Go.RowKit Go.Proofs.YtpflenjhmeaeoaaGreatDoorW.PrintWords Go.Proofs.YtpflenjhmeaeoaaGreatDoorW.PrintLast Go.Proofs.YtpflenjhmeaeoaaGreatDoorW.PrintMore
attribute [local go_sem] fJ fK gH gI eO eP fM fO
set_option linter.unusedVariables false
set_option linter.unusedSimpArgs false
def dZ.f (k : Nat)  : Option (Bool):=(dS.f k (⟨#[34,92,117,48,48,101,57,34]⟩ : ByteArray)).bind fun AZ=>(if AZ.1.toList = ([195,169] : List UInt8) then (if AZ.2.1 = 8 then (if AZ.2.2 = 0 then ((jg.f (⟨#[97,34,10]⟩ : ByteArray)).bind fun t193=>(some (t193.toList == ([34,97,92,34,92,110,34] : List UInt8)))) else (some false)) else (some false)) else (some false))
theorem dZ.mono : ∀ k,LeO (dZ.f k ) (dZ.f (k + 1) ):=by
 intro  k
 unfold dZ.f
 repeat' first
   | (with_reducible exact dS.mono _ _)
   | (with_reducible exact LeO.refl _)
   | (with_reducible exact LeO.none _)
   | (with_reducible refine LeO.ite ?_ ?_)
   | (with_reducible refine LeO.bind ?_ (fun _=>?_))
   | exact dS.mono _ _
   | exact LeO.none _
   | refine LeO.ite ?_ ?_
   | refine LeO.bind ?_ (fun _=>?_)
set_option maxHeartbeats 8000000 in
set_option maxRecDepth 100000 in
theorem dZ.calls (k : Nat)  (r : Bool) (w : World) (h : dZ.f k  = some r) (hG : GW.GW w) :
  Calls Tryz.prog 37 #[] w fun e w'=>e = .returned (.bool r) ∧ Below w.heap.size w w':=by
 have HB:=Aside0.mk (Below.refl w.heap.size w)
 have H : ((dS.f k (⟨#[34,92,117,48,48,101,57,34]⟩ : ByteArray)).bind fun AZ=>(if AZ.1.toList = ([195,169] : List UInt8) then (if AZ.2.1 = 8 then (if AZ.2.2 = 0 then ((jg.f (⟨#[97,34,10]⟩ : ByteArray)).bind fun t193=>(some (t193.toList == ([34,97,92,34,92,110,34] : List UInt8)))) else (some false)) else (some false)) else (some false))) = some r:=h
 clear h
 replace H:=Option.bind_eq_some_iff.mp H
 obtain ⟨⟨Bf,Bg,Bh⟩,Bl,H⟩:=H
 replace H : (if Bf.toList = ([195,169] : List UInt8) then (if Bg = 8 then (if Bh = 0 then ((jg.f (⟨#[97,34,10]⟩ : ByteArray)).bind fun t193=>(some (t193.toList == ([34,97,92,34,92,110,34] : List UInt8)))) else (some false)) else (some false)) else (some false)) = some r:=H
 have A1:=Aside0.mk Bl
 clear Bl
 by_cases c2 : Bf.toList = ([195,169] : List UInt8)
 ·rw [if_pos c2] at H
  have c2b0 : (Bf.toList == ([195,169] : List UInt8)) = true:=beq_iff_eq.mpr c2
  have c2b1 : (Bf.toList != ([195,169] : List UInt8)) = false:=bne_eq_false_iff_eq.mpr c2
  clear c2
  by_cases c3 : Bg = 8
  ·rw [if_pos c3] at H
   have c3b0 : (Bg == 8) = true:=beq_iff_eq.mpr c3
   have c3b1 : (Bg != 8) = false:=bne_eq_false_iff_eq.mpr c3
   clear c3
   by_cases c4 : Bh = 0
   ·rw [if_pos c4] at H
    have c4b0 : (Bh == 0) = true:=beq_iff_eq.mpr c4
    have c4b1 : (Bh != 0) = false:=bne_eq_false_iff_eq.mpr c4
    clear c4
    replace H:=Option.bind_eq_some_iff.mp H
    obtain ⟨t193,Bn,H⟩:=H
    replace H : (some (t193.toList == ([34,97,92,34,92,110,34] : List UInt8))) = some r:=H
    have A5:=Aside0.mk Bn
    clear Bn
    obtain rfl:=Option.some.inj H
    go_enter Tryz.func37,Tryz.ntmps37
    go_wp2_with (first|((with_reducible refine bF (f:=54) rfl ?_);refine dN (some 5) rfl rfl Tryz.func54 (by kernel_rfl) rfl #[.string (⟨#[34,92,117,48,48,101,57,34]⟩ : ByteArray)] rfl (by (try simp only [List.map_toArray,List.map_cons,List.map_nil]);first|done|rfl|(simp only [List.length_drop,List.length_take];rfl)|(simp (disch:=first|omega|(simp at *;omega)) only [dO,dG,eH];rfl)) ?_;(with_reducible refine (dS.calls k (⟨#[34,92,117,48,48,101,57,34]⟩ : ByteArray) Bf Bg Bh _ A1.out (by first|assumption|exact GW.below hG (by first|exact HB.out|assumption|(repeat (first|(with_reducible first|exact HB.out|apply bV|apply aW|apply bB)|exact HB.out)))|exact GW.drawn hG (by first|assumption|(repeat (first|exact Drawn0.refl _|assumption|apply Drawn0.step))))).mono ?_);rintro e w6 ⟨rfl,hb⟩;refine ⟨_,rfl,?_⟩;have Bj:=Aside0.mk (aK (by repeat (first|(with_reducible first|exact HB.out|apply bV|apply aW|apply bB)|exact HB.out)) hb);clear HB;have HB:=Bj;clear Bj;(try clear hb);(try clear hb2);(try clear hk);(try clear hi))|(go_at_call 55;(with_reducible refine (jg.calls (⟨#[97,34,10]⟩ : ByteArray) t193 _ A5.out).mono ?_);rintro e w7 ⟨rfl,hb⟩;have Bj:=Aside0.mk (aK (by repeat (first|(with_reducible first|exact HB.out|apply bV|apply aW|apply bB)|exact HB.out)) hb);clear HB;have HB:=Bj;clear Bj;(try clear hb);(try clear hb2);(try clear hk);(try clear hi)))
    go_ret
    exact ⟨by first|rfl|(simp [aY,aZ] <;> rfl)|(simp [*,aY,aZ] <;> rfl),by repeat (first|(with_reducible first|exact HB.out|apply bV|apply aW|apply bB)|exact HB.out)⟩
   ·rw [if_neg c4] at H
    have c4b0 : (Bh == 0) = false:=beq_eq_false_iff_ne.mpr c4
    have c4b1 : (Bh != 0) = true:=bne_iff_ne.mpr c4
    obtain rfl:=Option.some.inj H
    go_enter Tryz.func37,Tryz.ntmps37
    go_wp2_with (first|((with_reducible refine bF (f:=54) rfl ?_);refine dN (some 5) rfl rfl Tryz.func54 (by kernel_rfl) rfl #[.string (⟨#[34,92,117,48,48,101,57,34]⟩ : ByteArray)] rfl (by (try simp only [List.map_toArray,List.map_cons,List.map_nil]);first|done|rfl|(simp only [List.length_drop,List.length_take];rfl)|(simp (disch:=first|omega|(simp at *;omega)) only [dO,dG,eH];rfl)) ?_;(with_reducible refine (dS.calls k (⟨#[34,92,117,48,48,101,57,34]⟩ : ByteArray) Bf Bg Bh _ A1.out (by first|assumption|exact GW.below hG (by first|exact HB.out|assumption|(repeat (first|(with_reducible first|exact HB.out|apply bV|apply aW|apply bB)|exact HB.out)))|exact GW.drawn hG (by first|assumption|(repeat (first|exact Drawn0.refl _|assumption|apply Drawn0.step))))).mono ?_);rintro e w8 ⟨rfl,hb⟩;refine ⟨_,rfl,?_⟩;have Bj:=Aside0.mk (aK (by repeat (first|(with_reducible first|exact HB.out|apply bV|apply aW|apply bB)|exact HB.out)) hb);clear HB;have HB:=Bj;clear Bj;(try clear hb);(try clear hb2);(try clear hk);(try clear hi)))
    go_ret
    exact ⟨by first|rfl|(simp [aY,aZ] <;> rfl)|(simp [*,aY,aZ] <;> rfl),by repeat (first|(with_reducible first|exact HB.out|apply bV|apply aW|apply bB)|exact HB.out)⟩
  ·rw [if_neg c3] at H
   have c3b0 : (Bg == 8) = false:=beq_eq_false_iff_ne.mpr c3
   have c3b1 : (Bg != 8) = true:=bne_iff_ne.mpr c3
   obtain rfl:=Option.some.inj H
   go_enter Tryz.func37,Tryz.ntmps37
   go_wp2_with (first|((with_reducible refine bF (f:=54) rfl ?_);refine dN (some 5) rfl rfl Tryz.func54 (by kernel_rfl) rfl #[.string (⟨#[34,92,117,48,48,101,57,34]⟩ : ByteArray)] rfl (by (try simp only [List.map_toArray,List.map_cons,List.map_nil]);first|done|rfl|(simp only [List.length_drop,List.length_take];rfl)|(simp (disch:=first|omega|(simp at *;omega)) only [dO,dG,eH];rfl)) ?_;(with_reducible refine (dS.calls k (⟨#[34,92,117,48,48,101,57,34]⟩ : ByteArray) Bf Bg Bh _ A1.out (by first|assumption|exact GW.below hG (by first|exact HB.out|assumption|(repeat (first|(with_reducible first|exact HB.out|apply bV|apply aW|apply bB)|exact HB.out)))|exact GW.drawn hG (by first|assumption|(repeat (first|exact Drawn0.refl _|assumption|apply Drawn0.step))))).mono ?_);rintro e w9 ⟨rfl,hb⟩;refine ⟨_,rfl,?_⟩;have Bj:=Aside0.mk (aK (by repeat (first|(with_reducible first|exact HB.out|apply bV|apply aW|apply bB)|exact HB.out)) hb);clear HB;have HB:=Bj;clear Bj;(try clear hb);(try clear hb2);(try clear hk);(try clear hi)))
   go_ret
   exact ⟨by first|rfl|(simp [aY,aZ] <;> rfl)|(simp [*,aY,aZ] <;> rfl),by repeat (first|(with_reducible first|exact HB.out|apply bV|apply aW|apply bB)|exact HB.out)⟩
 ·rw [if_neg c2] at H
  have c2b0 : (Bf.toList == ([195,169] : List UInt8)) = false:=beq_eq_false_iff_ne.mpr c2
  have c2b1 : (Bf.toList != ([195,169] : List UInt8)) = true:=bne_iff_ne.mpr c2
  obtain rfl:=Option.some.inj H
  go_enter Tryz.func37,Tryz.ntmps37
  go_wp2_with (first|((with_reducible refine bF (f:=54) rfl ?_);refine dN (some 5) rfl rfl Tryz.func54 (by kernel_rfl) rfl #[.string (⟨#[34,92,117,48,48,101,57,34]⟩ : ByteArray)] rfl (by (try simp only [List.map_toArray,List.map_cons,List.map_nil]);first|done|rfl|(simp only [List.length_drop,List.length_take];rfl)|(simp (disch:=first|omega|(simp at *;omega)) only [dO,dG,eH];rfl)) ?_;(with_reducible refine (dS.calls k (⟨#[34,92,117,48,48,101,57,34]⟩ : ByteArray) Bf Bg Bh _ A1.out (by first|assumption|exact GW.below hG (by first|exact HB.out|assumption|(repeat (first|(with_reducible first|exact HB.out|apply bV|apply aW|apply bB)|exact HB.out)))|exact GW.drawn hG (by first|assumption|(repeat (first|exact Drawn0.refl _|assumption|apply Drawn0.step))))).mono ?_);rintro e Bo ⟨rfl,hb⟩;refine ⟨_,rfl,?_⟩;have Bj:=Aside0.mk (aK (by repeat (first|(with_reducible first|exact HB.out|apply bV|apply aW|apply bB)|exact HB.out)) hb);clear HB;have HB:=Bj;clear Bj;(try clear hb);(try clear hb2);(try clear hk);(try clear hi)))
  go_ret
  exact ⟨by first|rfl|(simp [aY,aZ] <;> rfl)|(simp [*,aY,aZ] <;> rfl),by repeat (first|(with_reducible first|exact HB.out|apply bV|apply aW|apply bB)|exact HB.out)⟩
end Go.Proofs.YtpflenjhmeaeoaaGreatDoor.GUt
