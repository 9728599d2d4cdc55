/- Written by this session's own program (wip/gen.py) out of the translation: plain Lean functions of the Go functions, and proofs that the calls come to their answers. No conditions beside those in the statements. -/
import Derived.Test.YtpflenjhmeaeoaaDoorGUtx0
import Derived.Test.YtpflenjhmeaeoaaDoorGUtx7
import Derived.Test.YtpflenjhmeaeoaaDoorGUtx9
import Derived.Test.YtpflenjhmeaeoaaDoorGUtName
namespace Go.Proofs.YtpflenjhmeaeoaaDoor.GUt
open Go.RowKit Go.Proofs.YtpflenjhmeaeoaaDoorW.PrintWords Go.Proofs.YtpflenjhmeaeoaaDoorW.PrintLast Go.Proofs.YtpflenjhmeaeoaaDoorW.PrintMore
attribute [local go_sem] fC fD gu gD eP eT fE fF
set_option linter.unusedVariables false
set_option linter.unusedSimpArgs false
def bT.f (k : Nat)  : Option (Bool):=(bg.f k (⟨#[97,45,49]⟩ : ByteArray)).bind fun Ao=>(if Ao = true then ((bg.f k (⟨#[45,97]⟩ : ByteArray)).bind fun Am=>(if Am = true then (some false) else ((dZ.f k (⟨#[97,46,98,45,99]⟩ : ByteArray)).bind fun t206=>(if t206 = true then ((bf.f k (⟨#[95,88]⟩ : ByteArray)).bind fun Al=>(some Al)) else (some false))))) else (some false))
theorem bT.mono : ∀ k,LeO (bT.f k ) (bT.f (k + 1) ):=by
 intro  k
 unfold bT.f
 repeat' first
   | (with_reducible exact bg.mono _ _)
   | (with_reducible exact dZ.mono _ _)
   | (with_reducible exact bf.mono _ _)
   | (with_reducible exact LeO.refl _)
   | (with_reducible exact LeO.none _)
   | (with_reducible refine LeO.ite ?_ ?_)
   | (with_reducible refine LeO.bind ?_ (fun _=>?_))
   | exact bg.mono _ _
   | exact dZ.mono _ _
   | exact bf.mono _ _
   | exact LeO.none _
   | refine LeO.ite ?_ ?_
   | refine LeO.bind ?_ (fun _=>?_)
set_option maxHeartbeats 8000000 in
set_option maxRecDepth 100000 in
theorem bT.calls (k : Nat)  (r : Bool) (w : World) (h : bT.f k  = some r) :
  Calls Tryd.prog 33 #[] w fun e w'=>e = .returned (.bool r) ∧ Below w.heap.size w w':=by
 have HB:=Aside0.mk (Below.refl w.heap.size w)
 have H : ((bg.f k (⟨#[97,45,49]⟩ : ByteArray)).bind fun Ao=>(if Ao = true then ((bg.f k (⟨#[45,97]⟩ : ByteArray)).bind fun Am=>(if Am = true then (some false) else ((dZ.f k (⟨#[97,46,98,45,99]⟩ : ByteArray)).bind fun t206=>(if t206 = true then ((bf.f k (⟨#[95,88]⟩ : ByteArray)).bind fun Al=>(some Al)) else (some false))))) else (some false))) = some r:=h
 clear h
 replace H:=Option.bind_eq_some_iff.mp H
 obtain ⟨Ao,Aq,H⟩:=H
 replace H : (if Ao = true then ((bg.f k (⟨#[45,97]⟩ : ByteArray)).bind fun Am=>(if Am = true then (some false) else ((dZ.f k (⟨#[97,46,98,45,99]⟩ : ByteArray)).bind fun t206=>(if t206 = true then ((bf.f k (⟨#[95,88]⟩ : ByteArray)).bind fun Al=>(some Al)) else (some false))))) else (some false)) = some r:=H
 have A1:=Aside0.mk Aq
 clear Aq
 by_cases c2 : Ao = true
 ·subst c2
  have H1 : ((bg.f k (⟨#[45,97]⟩ : ByteArray)).bind fun Am=>(if Am = true then (some false) else ((dZ.f k (⟨#[97,46,98,45,99]⟩ : ByteArray)).bind fun t206=>(if t206 = true then ((bf.f k (⟨#[95,88]⟩ : ByteArray)).bind fun Al=>(some Al)) else (some false))))) = some r:=by rw [if_pos rfl] at H;exact H
  clear H
  have H:=H1
  clear H1
  replace H:=Option.bind_eq_some_iff.mp H
  obtain ⟨Am,Au,H⟩:=H
  replace H : (if Am = true then (some false) else ((dZ.f k (⟨#[97,46,98,45,99]⟩ : ByteArray)).bind fun t206=>(if t206 = true then ((bf.f k (⟨#[95,88]⟩ : ByteArray)).bind fun Al=>(some Al)) else (some false)))) = some r:=H
  have A3:=Aside0.mk Au
  clear Au
  by_cases c4 : Am = true
  ·subst c4
   have H1 : (some false) = some r:=by rw [if_pos rfl] at H;exact H
   clear H
   have H:=H1
   clear H1
   obtain rfl:=Option.some.inj H
   go_enter Tryd.func33,Tryd.ntmps33
   go_wp2_with (first|((with_reducible refine bq (f:=37) rfl ?_);refine cO (some 1) rfl rfl Tryd.func37 (by kernel_rfl) rfl #[.string (⟨#[97,45,49]⟩ : ByteArray)] rfl (by (try simp only [List.map_toArray,List.map_cons,List.map_nil]);first|done|rfl|(simp only [List.length_drop,List.length_take];rfl)|(simp (disch:=first|omega|(simp at *;omega)) only [cZ,bS,dQ];rfl)) ?_;(with_reducible refine (bg.calls k (⟨#[97,45,49]⟩ : ByteArray) true _ A1.out).mono ?_);rintro e w' ⟨rfl,⟨nd,rfl⟩⟩;refine ⟨_,rfl,?_⟩)|(go_at_call 37;(with_reducible refine (bg.calls k (⟨#[45,97]⟩ : ByteArray) true _ A3.out).mono ?_);rintro e w' ⟨rfl,⟨nd,rfl⟩⟩))
   go_ret
   exact ⟨by first|rfl|(simp [aV,aW] <;> rfl)|(simp [*,aV,aW] <;> rfl),by repeat (first|(with_reducible first|exact HB.out|apply bG|apply aT|apply aZ)|exact HB.out)⟩
  ·replace c4:=Bool.eq_false_iff.mpr c4
   subst c4
   have H1 : ((dZ.f k (⟨#[97,46,98,45,99]⟩ : ByteArray)).bind fun t206=>(if t206 = true then ((bf.f k (⟨#[95,88]⟩ : ByteArray)).bind fun Al=>(some Al)) else (some false))) = some r:=by rw [if_neg (show ¬ (false = true) by decide)] at H;exact H
   clear H
   have H:=H1
   clear H1
   replace H:=Option.bind_eq_some_iff.mp H
   obtain ⟨t206,Aw,H⟩:=H
   replace H : (if t206 = true then ((bf.f k (⟨#[95,88]⟩ : ByteArray)).bind fun Al=>(some Al)) else (some false)) = some r:=H
   have A5:=Aside0.mk Aw
   clear Aw
   by_cases c6 : t206 = true
   ·subst c6
    have H1 : ((bf.f k (⟨#[95,88]⟩ : ByteArray)).bind fun Al=>(some Al)) = some r:=by rw [if_pos rfl] at H;exact H
    clear H
    have H:=H1
    clear H1
    replace H:=Option.bind_eq_some_iff.mp H
    obtain ⟨Al,Ay,H⟩:=H
    replace H : (some Al) = some r:=H
    have A7:=Aside0.mk Ay
    clear Ay
    obtain rfl:=Option.some.inj H
    go_enter Tryd.func33,Tryd.ntmps33
    go_wp2_with (first|((with_reducible refine bq (f:=37) rfl ?_);refine cO (some 1) rfl rfl Tryd.func37 (by kernel_rfl) rfl #[.string (⟨#[97,45,49]⟩ : ByteArray)] rfl (by (try simp only [List.map_toArray,List.map_cons,List.map_nil]);first|done|rfl|(simp only [List.length_drop,List.length_take];rfl)|(simp (disch:=first|omega|(simp at *;omega)) only [cZ,bS,dQ];rfl)) ?_;(with_reducible refine (bg.calls k (⟨#[97,45,49]⟩ : ByteArray) true _ A1.out).mono ?_);rintro e w' ⟨rfl,⟨nd,rfl⟩⟩;refine ⟨_,rfl,?_⟩)|(go_at_call 37;(with_reducible refine (bg.calls k (⟨#[45,97]⟩ : ByteArray) false _ A3.out).mono ?_);rintro e w' ⟨rfl,⟨nd,rfl⟩⟩)|(go_at_call 36;(with_reducible refine (dZ.calls k (⟨#[97,46,98,45,99]⟩ : ByteArray) true _ A5.out).mono ?_);rintro e w8 ⟨rfl,hb⟩;have Ap:=Aside0.mk (aJ (by repeat (first|(with_reducible first|exact HB.out|apply bG|apply aT|apply aZ)|exact HB.out)) hb);clear HB;have HB:=Ap;clear Ap;(try clear hb);(try clear hb2);(try clear hk);(try clear hi))|(go_at_call 61;(with_reducible refine (bf.calls k (⟨#[95,88]⟩ : ByteArray) Al _ A7.out).mono ?_);rintro e w' ⟨rfl,⟨nd,rfl⟩⟩))
    go_ret
    exact ⟨by first|rfl|(simp [aV,aW] <;> rfl)|(simp [*,aV,aW] <;> rfl),by repeat (first|(with_reducible first|exact HB.out|apply bG|apply aT|apply aZ)|exact HB.out)⟩
   ·replace c6:=Bool.eq_false_iff.mpr c6
    subst c6
    have H1 : (some false) = some r:=by rw [if_neg (show ¬ (false = true) by decide)] at H;exact H
    clear H
    have H:=H1
    clear H1
    obtain rfl:=Option.some.inj H
    go_enter Tryd.func33,Tryd.ntmps33
    go_wp2_with (first|((with_reducible refine bq (f:=37) rfl ?_);refine cO (some 1) rfl rfl Tryd.func37 (by kernel_rfl) rfl #[.string (⟨#[97,45,49]⟩ : ByteArray)] rfl (by (try simp only [List.map_toArray,List.map_cons,List.map_nil]);first|done|rfl|(simp only [List.length_drop,List.length_take];rfl)|(simp (disch:=first|omega|(simp at *;omega)) only [cZ,bS,dQ];rfl)) ?_;(with_reducible refine (bg.calls k (⟨#[97,45,49]⟩ : ByteArray) true _ A1.out).mono ?_);rintro e w' ⟨rfl,⟨nd,rfl⟩⟩;refine ⟨_,rfl,?_⟩)|(go_at_call 37;(with_reducible refine (bg.calls k (⟨#[45,97]⟩ : ByteArray) false _ A3.out).mono ?_);rintro e w' ⟨rfl,⟨nd,rfl⟩⟩)|(go_at_call 36;(with_reducible refine (dZ.calls k (⟨#[97,46,98,45,99]⟩ : ByteArray) false _ A5.out).mono ?_);rintro e w9 ⟨rfl,hb⟩;have Ap:=Aside0.mk (aJ (by repeat (first|(with_reducible first|exact HB.out|apply bG|apply aT|apply aZ)|exact HB.out)) hb);clear HB;have HB:=Ap;clear Ap;(try clear hb);(try clear hb2);(try clear hk);(try clear hi)))
    go_ret
    exact ⟨by first|rfl|(simp [aV,aW] <;> rfl)|(simp [*,aV,aW] <;> rfl),by repeat (first|(with_reducible first|exact HB.out|apply bG|apply aT|apply aZ)|exact HB.out)⟩
 ·replace c2:=Bool.eq_false_iff.mpr c2
  subst c2
  have H1 : (some false) = some r:=by rw [if_neg (show ¬ (false = true) by decide)] at H;exact H
  clear H
  have H:=H1
  clear H1
  obtain rfl:=Option.some.inj H
  go_enter Tryd.func33,Tryd.ntmps33
  go_wp2_with (first|((with_reducible refine bq (f:=37) rfl ?_);refine cO (some 1) rfl rfl Tryd.func37 (by kernel_rfl) rfl #[.string (⟨#[97,45,49]⟩ : ByteArray)] rfl (by (try simp only [List.map_toArray,List.map_cons,List.map_nil]);first|done|rfl|(simp only [List.length_drop,List.length_take];rfl)|(simp (disch:=first|omega|(simp at *;omega)) only [cZ,bS,dQ];rfl)) ?_;(with_reducible refine (bg.calls k (⟨#[97,45,49]⟩ : ByteArray) false _ A1.out).mono ?_);rintro e w' ⟨rfl,⟨nd,rfl⟩⟩;refine ⟨_,rfl,?_⟩))
  go_ret
  exact ⟨by first|rfl|(simp [aV,aW] <;> rfl)|(simp [*,aV,aW] <;> rfl),by repeat (first|(with_reducible first|exact HB.out|apply bG|apply aT|apply aZ)|exact HB.out)⟩
end Go.Proofs.YtpflenjhmeaeoaaDoor.GUt
