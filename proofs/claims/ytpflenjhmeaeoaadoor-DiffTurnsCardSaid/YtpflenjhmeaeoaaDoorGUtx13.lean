/- Written by this session's own program (wip/gen.py) out of the translation: plain Lean functions of the Go functions, and proofs that the calls come to their answers. No conditions beside those in the statements. -/
import Derived.Test.YtpflenjhmeaeoaaDoorGUtx0
import Derived.Test.YtpflenjhmeaeoaaDoorGUtQuote
import Derived.Test.YtpflenjhmeaeoaaDoorGUtUnq
import Derived.Test.YtpflenjhmeaeoaaDoorGW
namespace Go.Proofs.YtpflenjhmeaeoaaDoor.GUt
open Go.RowKit Go.Proofs.YtpflenjhmeaeoaaDoorW.PrintWords Go.Proofs.YtpflenjhmeaeoaaDoorW.PrintLast Go.Proofs.YtpflenjhmeaeoaaDoorW.PrintMore
attribute [local go_sem] fC fD gu gD eP eT fE fF
set_option linter.unusedVariables false
set_option linter.unusedSimpArgs false
def dS.f (k : Nat)  : Option (Bool):=(dN.f k (⟨#[34,92,117,48,48,101,57,34]⟩ : ByteArray)).bind fun Al=>(if Al.1.toList = ([195,169] : List UInt8) then (if Al.2.1 = 8 then (if Al.2.2 = 0 then ((iW.f (⟨#[97,34,10]⟩ : ByteArray)).bind fun t203=>(some (t203.toList == ([34,97,92,34,92,110,34] : List UInt8)))) else (some false)) else (some false)) else (some false))
theorem dS.mono : ∀ k,LeO (dS.f k ) (dS.f (k + 1) ):=by
 intro  k
 unfold dS.f
 repeat' first
   | (with_reducible exact dN.mono _ _)
   | (with_reducible exact LeO.refl _)
   | (with_reducible exact LeO.none _)
   | (with_reducible refine LeO.ite ?_ ?_)
   | (with_reducible refine LeO.bind ?_ (fun _=>?_))
   | exact dN.mono _ _
   | exact LeO.none _
   | refine LeO.ite ?_ ?_
   | refine LeO.bind ?_ (fun _=>?_)
set_option maxHeartbeats 8000000 in
set_option maxRecDepth 100000 in
theorem dS.calls (k : Nat)  (r : Bool) (w : World) (h : dS.f k  = some r) (hG : GW.GW w) :
  Calls Tryd.prog 32 #[] w fun e w'=>e = .returned (.bool r) ∧ Below w.heap.size w w':=by
 have HB:=Aside0.mk (Below.refl w.heap.size w)
 have H : ((dN.f k (⟨#[34,92,117,48,48,101,57,34]⟩ : ByteArray)).bind fun Al=>(if Al.1.toList = ([195,169] : List UInt8) then (if Al.2.1 = 8 then (if Al.2.2 = 0 then ((iW.f (⟨#[97,34,10]⟩ : ByteArray)).bind fun t203=>(some (t203.toList == ([34,97,92,34,92,110,34] : List UInt8)))) else (some false)) else (some false)) else (some false))) = some r:=h
 clear h
 replace H:=Option.bind_eq_some_iff.mp H
 obtain ⟨⟨Am,t201,Ao⟩,Aq,H⟩:=H
 replace H : (if Am.toList = ([195,169] : List UInt8) then (if t201 = 8 then (if Ao = 0 then ((iW.f (⟨#[97,34,10]⟩ : ByteArray)).bind fun t203=>(some (t203.toList == ([34,97,92,34,92,110,34] : List UInt8)))) else (some false)) else (some false)) else (some false)) = some r:=H
 have A1:=Aside0.mk Aq
 clear Aq
 by_cases c2 : Am.toList = ([195,169] : List UInt8)
 ·rw [if_pos c2] at H
  have c2b0 : (Am.toList == ([195,169] : List UInt8)) = true:=beq_iff_eq.mpr c2
  have c2b1 : (Am.toList != ([195,169] : List UInt8)) = false:=bne_eq_false_iff_eq.mpr c2
  clear c2
  by_cases c3 : t201 = 8
  ·rw [if_pos c3] at H
   have c3b0 : (t201 == 8) = true:=beq_iff_eq.mpr c3
   have c3b1 : (t201 != 8) = false:=bne_eq_false_iff_eq.mpr c3
   clear c3
   by_cases c4 : Ao = 0
   ·rw [if_pos c4] at H
    have c4b0 : (Ao == 0) = true:=beq_iff_eq.mpr c4
    have c4b1 : (Ao != 0) = false:=bne_eq_false_iff_eq.mpr c4
    clear c4
    replace H:=Option.bind_eq_some_iff.mp H
    obtain ⟨t203,Au,H⟩:=H
    replace H : (some (t203.toList == ([34,97,92,34,92,110,34] : List UInt8))) = some r:=H
    have A5:=Aside0.mk Au
    clear Au
    obtain rfl:=Option.some.inj H
    go_enter Tryd.func32,Tryd.ntmps32
    go_wp2_with (first|((with_reducible refine bq (f:=59) rfl ?_);refine cO (some 5) rfl rfl Tryd.func59 (by kernel_rfl) rfl #[.string (⟨#[34,92,117,48,48,101,57,34]⟩ : ByteArray)] rfl (by (try simp only [List.map_toArray,List.map_cons,List.map_nil]);first|done|rfl|(simp only [List.length_drop,List.length_take];rfl)|(simp (disch:=first|omega|(simp at *;omega)) only [cZ,bS,dQ];rfl)) ?_;(with_reducible refine (dN.calls k (⟨#[34,92,117,48,48,101,57,34]⟩ : ByteArray) Am t201 Ao _ A1.out (by first|assumption|exact GW.below hG (by first|exact HB.out|assumption|(repeat (first|(with_reducible first|exact HB.out|apply bG|apply aT|apply aZ)|exact HB.out)))|exact GW.drawn hG (by first|assumption|(repeat (first|exact Drawn0.refl _|assumption|apply Drawn0.step))))).mono ?_);rintro e w6 ⟨rfl,hb⟩;refine ⟨_,rfl,?_⟩;have Ap:=Aside0.mk (aJ (by repeat (first|(with_reducible first|exact HB.out|apply bG|apply aT|apply aZ)|exact HB.out)) hb);clear HB;have HB:=Ap;clear Ap;(try clear hb);(try clear hb2);(try clear hk);(try clear hi))|(go_at_call 60;(with_reducible refine (iW.calls (⟨#[97,34,10]⟩ : ByteArray) t203 _ A5.out).mono ?_);rintro e w7 ⟨rfl,hb⟩;have Ap:=Aside0.mk (aJ (by repeat (first|(with_reducible first|exact HB.out|apply bG|apply aT|apply aZ)|exact HB.out)) hb);clear HB;have HB:=Ap;clear Ap;(try clear hb);(try clear hb2);(try clear hk);(try clear hi)))
    go_ret
    exact ⟨by first|rfl|(simp [aV,aW] <;> rfl)|(simp [*,aV,aW] <;> rfl),by repeat (first|(with_reducible first|exact HB.out|apply bG|apply aT|apply aZ)|exact HB.out)⟩
   ·rw [if_neg c4] at H
    have c4b0 : (Ao == 0) = false:=beq_eq_false_iff_ne.mpr c4
    have c4b1 : (Ao != 0) = true:=bne_iff_ne.mpr c4
    obtain rfl:=Option.some.inj H
    go_enter Tryd.func32,Tryd.ntmps32
    go_wp2_with (first|((with_reducible refine bq (f:=59) rfl ?_);refine cO (some 5) rfl rfl Tryd.func59 (by kernel_rfl) rfl #[.string (⟨#[34,92,117,48,48,101,57,34]⟩ : ByteArray)] rfl (by (try simp only [List.map_toArray,List.map_cons,List.map_nil]);first|done|rfl|(simp only [List.length_drop,List.length_take];rfl)|(simp (disch:=first|omega|(simp at *;omega)) only [cZ,bS,dQ];rfl)) ?_;(with_reducible refine (dN.calls k (⟨#[34,92,117,48,48,101,57,34]⟩ : ByteArray) Am t201 Ao _ A1.out (by first|assumption|exact GW.below hG (by first|exact HB.out|assumption|(repeat (first|(with_reducible first|exact HB.out|apply bG|apply aT|apply aZ)|exact HB.out)))|exact GW.drawn hG (by first|assumption|(repeat (first|exact Drawn0.refl _|assumption|apply Drawn0.step))))).mono ?_);rintro e w8 ⟨rfl,hb⟩;refine ⟨_,rfl,?_⟩;have Ap:=Aside0.mk (aJ (by repeat (first|(with_reducible first|exact HB.out|apply bG|apply aT|apply aZ)|exact HB.out)) hb);clear HB;have HB:=Ap;clear Ap;(try clear hb);(try clear hb2);(try clear hk);(try clear hi)))
    go_ret
    exact ⟨by first|rfl|(simp [aV,aW] <;> rfl)|(simp [*,aV,aW] <;> rfl),by repeat (first|(with_reducible first|exact HB.out|apply bG|apply aT|apply aZ)|exact HB.out)⟩
  ·rw [if_neg c3] at H
   have c3b0 : (t201 == 8) = false:=beq_eq_false_iff_ne.mpr c3
   have c3b1 : (t201 != 8) = true:=bne_iff_ne.mpr c3
   obtain rfl:=Option.some.inj H
   go_enter Tryd.func32,Tryd.ntmps32
   go_wp2_with (first|((with_reducible refine bq (f:=59) rfl ?_);refine cO (some 5) rfl rfl Tryd.func59 (by kernel_rfl) rfl #[.string (⟨#[34,92,117,48,48,101,57,34]⟩ : ByteArray)] rfl (by (try simp only [List.map_toArray,List.map_cons,List.map_nil]);first|done|rfl|(simp only [List.length_drop,List.length_take];rfl)|(simp (disch:=first|omega|(simp at *;omega)) only [cZ,bS,dQ];rfl)) ?_;(with_reducible refine (dN.calls k (⟨#[34,92,117,48,48,101,57,34]⟩ : ByteArray) Am t201 Ao _ A1.out (by first|assumption|exact GW.below hG (by first|exact HB.out|assumption|(repeat (first|(with_reducible first|exact HB.out|apply bG|apply aT|apply aZ)|exact HB.out)))|exact GW.drawn hG (by first|assumption|(repeat (first|exact Drawn0.refl _|assumption|apply Drawn0.step))))).mono ?_);rintro e w9 ⟨rfl,hb⟩;refine ⟨_,rfl,?_⟩;have Ap:=Aside0.mk (aJ (by repeat (first|(with_reducible first|exact HB.out|apply bG|apply aT|apply aZ)|exact HB.out)) hb);clear HB;have HB:=Ap;clear Ap;(try clear hb);(try clear hb2);(try clear hk);(try clear hi)))
   go_ret
   exact ⟨by first|rfl|(simp [aV,aW] <;> rfl)|(simp [*,aV,aW] <;> rfl),by repeat (first|(with_reducible first|exact HB.out|apply bG|apply aT|apply aZ)|exact HB.out)⟩
 ·rw [if_neg c2] at H
  have c2b0 : (Am.toList == ([195,169] : List UInt8)) = false:=beq_eq_false_iff_ne.mpr c2
  have c2b1 : (Am.toList != ([195,169] : List UInt8)) = true:=bne_iff_ne.mpr c2
  obtain rfl:=Option.some.inj H
  go_enter Tryd.func32,Tryd.ntmps32
  go_wp2_with (first|((with_reducible refine bq (f:=59) rfl ?_);refine cO (some 5) rfl rfl Tryd.func59 (by kernel_rfl) rfl #[.string (⟨#[34,92,117,48,48,101,57,34]⟩ : ByteArray)] rfl (by (try simp only [List.map_toArray,List.map_cons,List.map_nil]);first|done|rfl|(simp only [List.length_drop,List.length_take];rfl)|(simp (disch:=first|omega|(simp at *;omega)) only [cZ,bS,dQ];rfl)) ?_;(with_reducible refine (dN.calls k (⟨#[34,92,117,48,48,101,57,34]⟩ : ByteArray) Am t201 Ao _ A1.out (by first|assumption|exact GW.below hG (by first|exact HB.out|assumption|(repeat (first|(with_reducible first|exact HB.out|apply bG|apply aT|apply aZ)|exact HB.out)))|exact GW.drawn hG (by first|assumption|(repeat (first|exact Drawn0.refl _|assumption|apply Drawn0.step))))).mono ?_);rintro e Aw ⟨rfl,hb⟩;refine ⟨_,rfl,?_⟩;have Ap:=Aside0.mk (aJ (by repeat (first|(with_reducible first|exact HB.out|apply bG|apply aT|apply aZ)|exact HB.out)) hb);clear HB;have HB:=Ap;clear Ap;(try clear hb);(try clear hb2);(try clear hk);(try clear hi)))
  go_ret
  exact ⟨by first|rfl|(simp [aV,aW] <;> rfl)|(simp [*,aV,aW] <;> rfl),by repeat (first|(with_reducible first|exact HB.out|apply bG|apply aT|apply aZ)|exact HB.out)⟩
end Go.Proofs.YtpflenjhmeaeoaaDoor.GUt
