/- Written by this session's own program (wip/gen.py) out of the translation: plain Lean functions of the Go functions, and proofs that the calls come to their answers. No conditions beside those in the statements. -/
import Derived.Test.YtpflenjhmeaeoaaGreatDoorGUtx0
import Derived.Test.YtpflenjhmeaeoaaGreatDoorGUtx10
import Derived.Test.YtpflenjhmeaeoaaGreatDoorGUtName
namespace Go.Proofs.YtpflenjhmeaeoaaGreatDoor.GUt
open Go.RowKit Go.Proofs.YtpflenjhmeaeoaaGreatDoorW.PrintWords Go.Proofs.YtpflenjhmeaeoaaGreatDoorW.PrintLast Go.Proofs.YtpflenjhmeaeoaaGreatDoorW.PrintMore
attribute [local go_sem] fJ fK gH gI eO eP fM fO
set_option linter.unusedVariables false
set_option linter.unusedSimpArgs false
def cK.f (k : Nat)  : Option (Bool):=(bg.f k (⟨#[97,45,49]⟩ : ByteArray)).bind fun Bf=>(if Bf = true then ((bg.f k (⟨#[45,97]⟩ : ByteArray)).bind fun t201=>(if t201 = true then (some false) else ((eu.f k (⟨#[97,46,98,45,99]⟩ : ByteArray)).bind fun AZ=>(if AZ = true then ((bf.f k (⟨#[95,88]⟩ : ByteArray)).bind fun t203=>(some t203)) else (some false))))) else (some false))
theorem cK.mono : ∀ k,LeO (cK.f k ) (cK.f (k + 1) ):=by
 intro  k
 unfold cK.f
 repeat' first
   | (with_reducible exact bg.mono _ _)
   | (with_reducible exact eu.mono _ _)
   | (with_reducible exact bf.mono _ _)
   | (with_reducible exact LeO.refl _)
   | (with_reducible exact LeO.none _)
   | (with_reducible refine LeO.ite ?_ ?_)
   | (with_reducible refine LeO.bind ?_ (fun _=>?_))
   | exact bg.mono _ _
   | exact eu.mono _ _
   | exact bf.mono _ _
   | exact LeO.none _
   | refine LeO.ite ?_ ?_
   | refine LeO.bind ?_ (fun _=>?_)
set_option maxHeartbeats 8000000 in
set_option maxRecDepth 100000 in
theorem cK.calls (k : Nat)  (r : Bool) (w : World) (h : cK.f k  = some r) :
  Calls Tryz.prog 38 #[] w fun e w'=>e = .returned (.bool r) ∧ Below w.heap.size w w':=by
 have HB:=Aside0.mk (Below.refl w.heap.size w)
 have H : ((bg.f k (⟨#[97,45,49]⟩ : ByteArray)).bind fun Bf=>(if Bf = true then ((bg.f k (⟨#[45,97]⟩ : ByteArray)).bind fun t201=>(if t201 = true then (some false) else ((eu.f k (⟨#[97,46,98,45,99]⟩ : ByteArray)).bind fun AZ=>(if AZ = true then ((bf.f k (⟨#[95,88]⟩ : ByteArray)).bind fun t203=>(some t203)) else (some false))))) else (some false))) = some r:=h
 clear h
 replace H:=Option.bind_eq_some_iff.mp H
 obtain ⟨Bf,Bh,H⟩:=H
 replace H : (if Bf = true then ((bg.f k (⟨#[45,97]⟩ : ByteArray)).bind fun t201=>(if t201 = true then (some false) else ((eu.f k (⟨#[97,46,98,45,99]⟩ : ByteArray)).bind fun AZ=>(if AZ = true then ((bf.f k (⟨#[95,88]⟩ : ByteArray)).bind fun t203=>(some t203)) else (some false))))) else (some false)) = some r:=H
 have A1:=Aside0.mk Bh
 clear Bh
 by_cases c2 : Bf = true
 ·subst c2
  have H1 : ((bg.f k (⟨#[45,97]⟩ : ByteArray)).bind fun t201=>(if t201 = true then (some false) else ((eu.f k (⟨#[97,46,98,45,99]⟩ : ByteArray)).bind fun AZ=>(if AZ = true then ((bf.f k (⟨#[95,88]⟩ : ByteArray)).bind fun t203=>(some t203)) else (some false))))) = some r:=by rw [if_pos rfl] at H;exact H
  clear H
  have H:=H1
  clear H1
  replace H:=Option.bind_eq_some_iff.mp H
  obtain ⟨t201,Bj,H⟩:=H
  replace H : (if t201 = true then (some false) else ((eu.f k (⟨#[97,46,98,45,99]⟩ : ByteArray)).bind fun AZ=>(if AZ = true then ((bf.f k (⟨#[95,88]⟩ : ByteArray)).bind fun t203=>(some t203)) else (some false)))) = some r:=H
  have A3:=Aside0.mk Bj
  clear Bj
  by_cases c4 : t201 = true
  ·subst c4
   have H1 : (some false) = some r:=by rw [if_pos rfl] at H;exact H
   clear H
   have H:=H1
   clear H1
   obtain rfl:=Option.some.inj H
   go_enter Tryz.func38,Tryz.ntmps38
   go_wp2_with (first|((with_reducible refine bF (f:=56) rfl ?_);refine dN (some 1) rfl rfl Tryz.func56 (by kernel_rfl) rfl #[.string (⟨#[97,45,49]⟩ : ByteArray)] rfl (by (try simp only [List.map_toArray,List.map_cons,List.map_nil]);first|done|rfl|(simp only [List.length_drop,List.length_take];rfl)|(simp (disch:=first|omega|(simp at *;omega)) only [dO,dG,eH];rfl)) ?_;(with_reducible refine (bg.calls k (⟨#[97,45,49]⟩ : ByteArray) true _ A1.out).mono ?_);rintro e w' ⟨rfl,⟨nd,rfl⟩⟩;refine ⟨_,rfl,?_⟩)|(go_at_call 56;(with_reducible refine (bg.calls k (⟨#[45,97]⟩ : ByteArray) true _ A3.out).mono ?_);rintro e w' ⟨rfl,⟨nd,rfl⟩⟩))
   go_ret
   exact ⟨by first|rfl|(simp [aY,aZ] <;> rfl)|(simp [*,aY,aZ] <;> rfl),by repeat (first|(with_reducible first|exact HB.out|apply bV|apply aW|apply bB)|exact HB.out)⟩
  ·replace c4:=Bool.eq_false_iff.mpr c4
   subst c4
   have H1 : ((eu.f k (⟨#[97,46,98,45,99]⟩ : ByteArray)).bind fun AZ=>(if AZ = true then ((bf.f k (⟨#[95,88]⟩ : ByteArray)).bind fun t203=>(some t203)) else (some false))) = some r:=by rw [if_neg (show ¬ (false = true) by decide)] at H;exact H
   clear H
   have H:=H1
   clear H1
   replace H:=Option.bind_eq_some_iff.mp H
   obtain ⟨AZ,Bl,H⟩:=H
   replace H : (if AZ = true then ((bf.f k (⟨#[95,88]⟩ : ByteArray)).bind fun t203=>(some t203)) else (some false)) = some r:=H
   have A5:=Aside0.mk Bl
   clear Bl
   by_cases c6 : AZ = true
   ·subst c6
    have H1 : ((bf.f k (⟨#[95,88]⟩ : ByteArray)).bind fun t203=>(some t203)) = some r:=by rw [if_pos rfl] at H;exact H
    clear H
    have H:=H1
    clear H1
    replace H:=Option.bind_eq_some_iff.mp H
    obtain ⟨t203,Bn,H⟩:=H
    replace H : (some t203) = some r:=H
    have A7:=Aside0.mk Bn
    clear Bn
    obtain rfl:=Option.some.inj H
    go_enter Tryz.func38,Tryz.ntmps38
    go_wp2_with (first|((with_reducible refine bF (f:=56) rfl ?_);refine dN (some 1) rfl rfl Tryz.func56 (by kernel_rfl) rfl #[.string (⟨#[97,45,49]⟩ : ByteArray)] rfl (by (try simp only [List.map_toArray,List.map_cons,List.map_nil]);first|done|rfl|(simp only [List.length_drop,List.length_take];rfl)|(simp (disch:=first|omega|(simp at *;omega)) only [dO,dG,eH];rfl)) ?_;(with_reducible refine (bg.calls k (⟨#[97,45,49]⟩ : ByteArray) true _ A1.out).mono ?_);rintro e w' ⟨rfl,⟨nd,rfl⟩⟩;refine ⟨_,rfl,?_⟩)|(go_at_call 56;(with_reducible refine (bg.calls k (⟨#[45,97]⟩ : ByteArray) false _ A3.out).mono ?_);rintro e w' ⟨rfl,⟨nd,rfl⟩⟩)|(go_at_call 57;(with_reducible refine (eu.calls k (⟨#[97,46,98,45,99]⟩ : ByteArray) true _ A5.out).mono ?_);rintro e w8 ⟨rfl,hb⟩;have Bg:=Aside0.mk (aK (by repeat (first|(with_reducible first|exact HB.out|apply bV|apply aW|apply bB)|exact HB.out)) hb);clear HB;have HB:=Bg;clear Bg;(try clear hb);(try clear hb2);(try clear hk);(try clear hi))|(go_at_call 58;(with_reducible refine (bf.calls k (⟨#[95,88]⟩ : ByteArray) t203 _ A7.out).mono ?_);rintro e w' ⟨rfl,⟨nd,rfl⟩⟩))
    go_ret
    exact ⟨by first|rfl|(simp [aY,aZ] <;> rfl)|(simp [*,aY,aZ] <;> rfl),by repeat (first|(with_reducible first|exact HB.out|apply bV|apply aW|apply bB)|exact HB.out)⟩
   ·replace c6:=Bool.eq_false_iff.mpr c6
    subst c6
    have H1 : (some false) = some r:=by rw [if_neg (show ¬ (false = true) by decide)] at H;exact H
    clear H
    have H:=H1
    clear H1
    obtain rfl:=Option.some.inj H
    go_enter Tryz.func38,Tryz.ntmps38
    go_wp2_with (first|((with_reducible refine bF (f:=56) rfl ?_);refine dN (some 1) rfl rfl Tryz.func56 (by kernel_rfl) rfl #[.string (⟨#[97,45,49]⟩ : ByteArray)] rfl (by (try simp only [List.map_toArray,List.map_cons,List.map_nil]);first|done|rfl|(simp only [List.length_drop,List.length_take];rfl)|(simp (disch:=first|omega|(simp at *;omega)) only [dO,dG,eH];rfl)) ?_;(with_reducible refine (bg.calls k (⟨#[97,45,49]⟩ : ByteArray) true _ A1.out).mono ?_);rintro e w' ⟨rfl,⟨nd,rfl⟩⟩;refine ⟨_,rfl,?_⟩)|(go_at_call 56;(with_reducible refine (bg.calls k (⟨#[45,97]⟩ : ByteArray) false _ A3.out).mono ?_);rintro e w' ⟨rfl,⟨nd,rfl⟩⟩)|(go_at_call 57;(with_reducible refine (eu.calls k (⟨#[97,46,98,45,99]⟩ : ByteArray) false _ A5.out).mono ?_);rintro e w9 ⟨rfl,hb⟩;have Bg:=Aside0.mk (aK (by repeat (first|(with_reducible first|exact HB.out|apply bV|apply aW|apply bB)|exact HB.out)) hb);clear HB;have HB:=Bg;clear Bg;(try clear hb);(try clear hb2);(try clear hk);(try clear hi)))
    go_ret
    exact ⟨by first|rfl|(simp [aY,aZ] <;> rfl)|(simp [*,aY,aZ] <;> rfl),by repeat (first|(with_reducible first|exact HB.out|apply bV|apply aW|apply bB)|exact HB.out)⟩
 ·replace c2:=Bool.eq_false_iff.mpr c2
  subst c2
  have H1 : (some false) = some r:=by rw [if_neg (show ¬ (false = true) by decide)] at H;exact H
  clear H
  have H:=H1
  clear H1
  obtain rfl:=Option.some.inj H
  go_enter Tryz.func38,Tryz.ntmps38
  go_wp2_with (first|((with_reducible refine bF (f:=56) rfl ?_);refine dN (some 1) rfl rfl Tryz.func56 (by kernel_rfl) rfl #[.string (⟨#[97,45,49]⟩ : ByteArray)] rfl (by (try simp only [List.map_toArray,List.map_cons,List.map_nil]);first|done|rfl|(simp only [List.length_drop,List.length_take];rfl)|(simp (disch:=first|omega|(simp at *;omega)) only [dO,dG,eH];rfl)) ?_;(with_reducible refine (bg.calls k (⟨#[97,45,49]⟩ : ByteArray) false _ A1.out).mono ?_);rintro e w' ⟨rfl,⟨nd,rfl⟩⟩;refine ⟨_,rfl,?_⟩))
  go_ret
  exact ⟨by first|rfl|(simp [aY,aZ] <;> rfl)|(simp [*,aY,aZ] <;> rfl),by repeat (first|(with_reducible first|exact HB.out|apply bV|apply aW|apply bB)|exact HB.out)⟩
end Go.Proofs.YtpflenjhmeaeoaaGreatDoor.GUt
