/- Written by this session's own program (wip/gen.py) out of the translation: plain Lean functions of the Go functions, and proofs that the calls come to their answers. No conditions beside those in the statements. -/
import Derived.Test.YtpncpefppifgdaaGreatDoorCp
import Derived.Test.YtpncpefppifgdaaGreatDoorGUtx0
import Derived.Test.YtpncpefppifgdaaGreatDoorGUtx3
import Derived.Test.YtpncpefppifgdaaGreatDoorGUtx4
import Derived.Test.YtpncpefppifgdaaGreatDoorGUtName
namespace Go.Proofs.YtpncpefppifgdaaGreatDoor.GUt
open Go.RowKit Go.Proofs.YtpncpefppifgdaaGreatDoorW.PrintWords Go.Proofs.YtpncpefppifgdaaGreatDoorW.PrintLast Go.Proofs.YtpncpefppifgdaaGreatDoorW.PrintMore
attribute [local go_sem] fH fI gF gG eZ fq fJ fK
set_option linter.unusedVariables false
set_option linter.unusedSimpArgs false
def bU.f (k : Nat)  : Option (Bool):=(aZ.f k (⟨#[97,45,49]⟩ : ByteArray)).bind fun t116=>(if t116 = true then ((aZ.f k (⟨#[45,97]⟩ : ByteArray)).bind fun t117=>(if t117 = true then (some false) else ((dY.f k (⟨#[97,46,98,45,99]⟩ : ByteArray)).bind fun Bw=>(if Bw = true then ((aY.f k (⟨#[95,88]⟩ : ByteArray)).bind fun t119=>(some t119)) else (some false))))) else (some false))
theorem bU.mono : ∀ k,LeO (bU.f k ) (bU.f (k + 1) ):=by
 intro  k
 unfold bU.f
 repeat' first
   | (with_reducible exact aZ.mono _ _)
   | (with_reducible exact dY.mono _ _)
   | (with_reducible exact aY.mono _ _)
   | (with_reducible exact LeO.refl _)
   | (with_reducible exact LeO.none _)
   | (with_reducible refine LeO.ite ?_ ?_)
   | (with_reducible refine LeO.bind ?_ (fun _=>?_))
   | exact aZ.mono _ _
   | exact dY.mono _ _
   | exact aY.mono _ _
   | exact LeO.none _
   | refine LeO.ite ?_ ?_
   | refine LeO.bind ?_ (fun _=>?_)
set_option maxHeartbeats 8000000 in
set_option maxRecDepth 100000 in
theorem bU.calls (k : Nat)  (r : Bool) (w : World) (h : bU.f k  = some r) :
  Calls Tryz.prog 50 #[] w fun e w'=>e = .returned (.bool r) ∧ Below w.heap.size w w':=by
 have HB:=Aside0.mk (Below.refl w.heap.size w)
 have H : ((aZ.f k (⟨#[97,45,49]⟩ : ByteArray)).bind fun t116=>(if t116 = true then ((aZ.f k (⟨#[45,97]⟩ : ByteArray)).bind fun t117=>(if t117 = true then (some false) else ((dY.f k (⟨#[97,46,98,45,99]⟩ : ByteArray)).bind fun Bw=>(if Bw = true then ((aY.f k (⟨#[95,88]⟩ : ByteArray)).bind fun t119=>(some t119)) else (some false))))) else (some false))) = some r:=h
 clear h
 replace H:=Option.bind_eq_some_iff.mp H
 obtain ⟨t116,BD,H⟩:=H
 replace H : (if t116 = true then ((aZ.f k (⟨#[45,97]⟩ : ByteArray)).bind fun t117=>(if t117 = true then (some false) else ((dY.f k (⟨#[97,46,98,45,99]⟩ : ByteArray)).bind fun Bw=>(if Bw = true then ((aY.f k (⟨#[95,88]⟩ : ByteArray)).bind fun t119=>(some t119)) else (some false))))) else (some false)) = some r:=H
 have A1:=Aside0.mk BD
 clear BD
 by_cases c2 : t116 = true
 ·subst c2
  have H1 : ((aZ.f k (⟨#[45,97]⟩ : ByteArray)).bind fun t117=>(if t117 = true then (some false) else ((dY.f k (⟨#[97,46,98,45,99]⟩ : ByteArray)).bind fun Bw=>(if Bw = true then ((aY.f k (⟨#[95,88]⟩ : ByteArray)).bind fun t119=>(some t119)) else (some false))))) = some r:=by rw [if_pos rfl] at H;exact H
  clear H
  have H:=H1
  clear H1
  replace H:=Option.bind_eq_some_iff.mp H
  obtain ⟨t117,BF,H⟩:=H
  replace H : (if t117 = true then (some false) else ((dY.f k (⟨#[97,46,98,45,99]⟩ : ByteArray)).bind fun Bw=>(if Bw = true then ((aY.f k (⟨#[95,88]⟩ : ByteArray)).bind fun t119=>(some t119)) else (some false)))) = some r:=H
  have A3:=Aside0.mk BF
  clear BF
  by_cases c4 : t117 = true
  ·subst c4
   have H1 : (some false) = some r:=by rw [if_pos rfl] at H;exact H
   clear H
   have H:=H1
   clear H1
   obtain rfl:=Option.some.inj H
   go_enter Tryz.func50,Tryz.ntmps50
   go_wp2_with (first|((with_reducible refine bG (f:=70) rfl ?_);refine dJ (some 1) rfl rfl Tryz.func70 (by kernel_rfl) rfl #[.string (⟨#[97,45,49]⟩ : ByteArray)] rfl (by (try simp only [List.map_toArray,List.map_cons,List.map_nil]);first|done|rfl|(simp only [List.length_drop,List.length_take];rfl)|(simp (disch:=first|omega|(simp at *;omega)) only [dK,bW,eG];rfl)) ?_;(with_reducible refine (aZ.calls k (⟨#[97,45,49]⟩ : ByteArray) true _ A1.out).mono ?_);rintro e w' ⟨rfl,⟨nd,rfl⟩⟩;refine ⟨_,rfl,?_⟩)|(go_at_call 70;(with_reducible refine (aZ.calls k (⟨#[45,97]⟩ : ByteArray) true _ A3.out).mono ?_);rintro e w' ⟨rfl,⟨nd,rfl⟩⟩))
   go_ret
   exact ⟨by first|rfl|(simp [bg,bA] <;> rfl)|(simp [*,bg,bA] <;> rfl),hb_⟩
  ·replace c4:=Bool.eq_false_iff.mpr c4
   subst c4
   have H1 : ((dY.f k (⟨#[97,46,98,45,99]⟩ : ByteArray)).bind fun Bw=>(if Bw = true then ((aY.f k (⟨#[95,88]⟩ : ByteArray)).bind fun t119=>(some t119)) else (some false))) = some r:=by rw [if_neg (show ¬ (false = true) by decide)] at H;exact H
   clear H
   have H:=H1
   clear H1
   replace H:=Option.bind_eq_some_iff.mp H
   obtain ⟨Bw,BG,H⟩:=H
   replace H : (if Bw = true then ((aY.f k (⟨#[95,88]⟩ : ByteArray)).bind fun t119=>(some t119)) else (some false)) = some r:=H
   have A5:=Aside0.mk BG
   clear BG
   by_cases c6 : Bw = true
   ·subst c6
    have H1 : ((aY.f k (⟨#[95,88]⟩ : ByteArray)).bind fun t119=>(some t119)) = some r:=by rw [if_pos rfl] at H;exact H
    clear H
    have H:=H1
    clear H1
    replace H:=Option.bind_eq_some_iff.mp H
    obtain ⟨t119,BH,H⟩:=H
    replace H : (some t119) = some r:=H
    have A7:=Aside0.mk BH
    clear BH
    obtain rfl:=Option.some.inj H
    go_enter Tryz.func50,Tryz.ntmps50
    go_wp2_with (first|((with_reducible refine bG (f:=70) rfl ?_);refine dJ (some 1) rfl rfl Tryz.func70 (by kernel_rfl) rfl #[.string (⟨#[97,45,49]⟩ : ByteArray)] rfl (by (try simp only [List.map_toArray,List.map_cons,List.map_nil]);first|done|rfl|(simp only [List.length_drop,List.length_take];rfl)|(simp (disch:=first|omega|(simp at *;omega)) only [dK,bW,eG];rfl)) ?_;(with_reducible refine (aZ.calls k (⟨#[97,45,49]⟩ : ByteArray) true _ A1.out).mono ?_);rintro e w' ⟨rfl,⟨nd,rfl⟩⟩;refine ⟨_,rfl,?_⟩)|(go_at_call 70;(with_reducible refine (aZ.calls k (⟨#[45,97]⟩ : ByteArray) false _ A3.out).mono ?_);rintro e w' ⟨rfl,⟨nd,rfl⟩⟩)|(go_at_call 71;(with_reducible refine (dY.calls k (⟨#[97,46,98,45,99]⟩ : ByteArray) true _ A5.out).mono ?_);rintro e w8 ⟨rfl,hb⟩;have Bz:=Aside0.mk (aN hb_ hb);clear HB;have HB:=Bz;clear Bz;(try clear hb);(try clear hb2);(try clear hk);(try clear hi))|(go_at_call 72;(with_reducible refine (aY.calls k (⟨#[95,88]⟩ : ByteArray) t119 _ A7.out).mono ?_);rintro e w' ⟨rfl,⟨nd,rfl⟩⟩))
    go_ret
    exact ⟨by first|rfl|(simp [bg,bA] <;> rfl)|(simp [*,bg,bA] <;> rfl),hb_⟩
   ·replace c6:=Bool.eq_false_iff.mpr c6
    subst c6
    have H1 : (some false) = some r:=by rw [if_neg (show ¬ (false = true) by decide)] at H;exact H
    clear H
    have H:=H1
    clear H1
    obtain rfl:=Option.some.inj H
    go_enter Tryz.func50,Tryz.ntmps50
    go_wp2_with (first|((with_reducible refine bG (f:=70) rfl ?_);refine dJ (some 1) rfl rfl Tryz.func70 (by kernel_rfl) rfl #[.string (⟨#[97,45,49]⟩ : ByteArray)] rfl (by (try simp only [List.map_toArray,List.map_cons,List.map_nil]);first|done|rfl|(simp only [List.length_drop,List.length_take];rfl)|(simp (disch:=first|omega|(simp at *;omega)) only [dK,bW,eG];rfl)) ?_;(with_reducible refine (aZ.calls k (⟨#[97,45,49]⟩ : ByteArray) true _ A1.out).mono ?_);rintro e w' ⟨rfl,⟨nd,rfl⟩⟩;refine ⟨_,rfl,?_⟩)|(go_at_call 70;(with_reducible refine (aZ.calls k (⟨#[45,97]⟩ : ByteArray) false _ A3.out).mono ?_);rintro e w' ⟨rfl,⟨nd,rfl⟩⟩)|(go_at_call 71;(with_reducible refine (dY.calls k (⟨#[97,46,98,45,99]⟩ : ByteArray) false _ A5.out).mono ?_);rintro e w9 ⟨rfl,hb⟩;have Bz:=Aside0.mk (aN hb_ hb);clear HB;have HB:=Bz;clear Bz;(try clear hb);(try clear hb2);(try clear hk);(try clear hi)))
    go_ret
    exact ⟨by first|rfl|(simp [bg,bA] <;> rfl)|(simp [*,bg,bA] <;> rfl),hb_⟩
 ·replace c2:=Bool.eq_false_iff.mpr c2
  subst c2
  have H1 : (some false) = some r:=by rw [if_neg (show ¬ (false = true) by decide)] at H;exact H
  clear H
  have H:=H1
  clear H1
  obtain rfl:=Option.some.inj H
  go_enter Tryz.func50,Tryz.ntmps50
  go_wp2_with (first|((with_reducible refine bG (f:=70) rfl ?_);refine dJ (some 1) rfl rfl Tryz.func70 (by kernel_rfl) rfl #[.string (⟨#[97,45,49]⟩ : ByteArray)] rfl (by (try simp only [List.map_toArray,List.map_cons,List.map_nil]);first|done|rfl|(simp only [List.length_drop,List.length_take];rfl)|(simp (disch:=first|omega|(simp at *;omega)) only [dK,bW,eG];rfl)) ?_;(with_reducible refine (aZ.calls k (⟨#[97,45,49]⟩ : ByteArray) false _ A1.out).mono ?_);rintro e w' ⟨rfl,⟨nd,rfl⟩⟩;refine ⟨_,rfl,?_⟩))
  go_ret
  exact ⟨by first|rfl|(simp [bg,bA] <;> rfl)|(simp [*,bg,bA] <;> rfl),hb_⟩
end Go.Proofs.YtpncpefppifgdaaGreatDoor.GUt
