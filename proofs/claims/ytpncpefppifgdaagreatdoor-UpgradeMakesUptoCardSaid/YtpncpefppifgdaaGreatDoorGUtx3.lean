/- Written by this session's own program (wip/gen.py) out of the translation: plain Lean functions of the Go functions, and proofs that the calls come to their answers. No conditions beside those in the statements. -/
import Derived.Test.YtpncpefppifgdaaGreatDoorGUtx0
import Derived.Test.YtpncpefppifgdaaGreatDoorGUtx2
import Derived.Test.YtpncpefppifgdaaGreatDoorGUtName
namespace Go.Proofs.YtpncpefppifgdaaGreatDoor.GUt
open Go.RowKit Go.Proofs.YtpncpefppifgdaaGreatDoorW.PrintWords Go.Proofs.YtpncpefppifgdaaGreatDoorW.PrintLast Go.Proofs.YtpncpefppifgdaaGreatDoorW.PrintMore
attribute [local go_sem] fZ gq gM gN fM fO gu gD
set_option linter.unusedVariables false
set_option linter.unusedSimpArgs false
def cK.f (k : Nat)  : Option (Bool):=(bg.f k (⟨#[97,45,49]⟩ : ByteArray)).bind fun t124=>(if t124 = true then ((bg.f k (⟨#[45,97]⟩ : ByteArray)).bind fun Bv=>(if Bv = true then (some false) else ((eD.f k (⟨#[97,46,98,45,99]⟩ : ByteArray)).bind fun Bu=>(if Bu = true then ((bf.f k (⟨#[95,88]⟩ : ByteArray)).bind fun t127=>(some t127)) else (some false))))) else (some false))
theorem cK.mono : ∀ k,LeO (cK.f k ) (cK.f (k + 1) ):=by
 intro  k
 unfold cK.f
 repeat' first
   | (with_reducible exact bg.mono _ _)
   | (with_reducible exact eD.mono _ _)
   | (with_reducible exact bf.mono _ _)
   | (with_reducible exact LeO.refl _)
   | (with_reducible exact LeO.none _)
   | (with_reducible refine LeO.ite ?_ ?_)
   | (with_reducible refine LeO.bind ?_ (fun _=>?_))
   | exact bg.mono _ _
   | exact eD.mono _ _
   | exact bf.mono _ _
   | exact LeO.none _
   | refine LeO.ite ?_ ?_
   | refine LeO.bind ?_ (fun _=>?_)
set_option maxHeartbeats 8000000 in
set_option maxRecDepth 100000 in
theorem cK.calls (k : Nat)  (r : Bool) (w : World) (h : cK.f k  = some r) :
  Calls Tryz.prog 50 #[] w fun e w'=>e = .returned (.bool r) ∧ Below w.heap.size w w':=by
 have HB:=Aside0.mk (Below.refl w.heap.size w)
 have H : ((bg.f k (⟨#[97,45,49]⟩ : ByteArray)).bind fun t124=>(if t124 = true then ((bg.f k (⟨#[45,97]⟩ : ByteArray)).bind fun Bv=>(if Bv = true then (some false) else ((eD.f k (⟨#[97,46,98,45,99]⟩ : ByteArray)).bind fun Bu=>(if Bu = true then ((bf.f k (⟨#[95,88]⟩ : ByteArray)).bind fun t127=>(some t127)) else (some false))))) else (some false))) = some r:=h
 clear h
 replace H:=Option.bind_eq_some_iff.mp H
 obtain ⟨t124,Bz,H⟩:=H
 replace H : (if t124 = true then ((bg.f k (⟨#[45,97]⟩ : ByteArray)).bind fun Bv=>(if Bv = true then (some false) else ((eD.f k (⟨#[97,46,98,45,99]⟩ : ByteArray)).bind fun Bu=>(if Bu = true then ((bf.f k (⟨#[95,88]⟩ : ByteArray)).bind fun t127=>(some t127)) else (some false))))) else (some false)) = some r:=H
 have A1:=Aside0.mk Bz
 clear Bz
 by_cases c2 : t124 = true
 ·subst c2
  have H1 : ((bg.f k (⟨#[45,97]⟩ : ByteArray)).bind fun Bv=>(if Bv = true then (some false) else ((eD.f k (⟨#[97,46,98,45,99]⟩ : ByteArray)).bind fun Bu=>(if Bu = true then ((bf.f k (⟨#[95,88]⟩ : ByteArray)).bind fun t127=>(some t127)) else (some false))))) = some r:=by rw [if_pos rfl] at H;exact H
  clear H
  have H:=H1
  clear H1
  replace H:=Option.bind_eq_some_iff.mp H
  obtain ⟨Bv,BD,H⟩:=H
  replace H : (if Bv = true then (some false) else ((eD.f k (⟨#[97,46,98,45,99]⟩ : ByteArray)).bind fun Bu=>(if Bu = true then ((bf.f k (⟨#[95,88]⟩ : ByteArray)).bind fun t127=>(some t127)) else (some false)))) = some r:=H
  have A3:=Aside0.mk BD
  clear BD
  by_cases c4 : Bv = true
  ·subst c4
   have H1 : (some false) = some r:=by rw [if_pos rfl] at H;exact H
   clear H
   have H:=H1
   clear H1
   obtain rfl:=Option.some.inj H
   go_enter Tryz.func50,Tryz.ntmps50
   go_wp2_with (first|((with_reducible refine bO (f:=70) rfl ?_);refine dZ (some 1) rfl rfl Tryz.func70 (by kernel_rfl) rfl #[.string (⟨#[97,45,49]⟩ : ByteArray)] rfl (by (try simp only [List.map_toArray,List.map_cons,List.map_nil]);first|done|rfl|(simp only [List.length_drop,List.length_take];rfl)|(simp (disch:=first|omega|(simp at *;omega)) only [eu,dD,fA];rfl)) ?_;(with_reducible refine (bg.calls k (⟨#[97,45,49]⟩ : ByteArray) true _ A1.out).mono ?_);rintro e w' ⟨rfl,⟨nd,rfl⟩⟩;refine ⟨_,rfl,?_⟩)|(go_at_call 70;(with_reducible refine (bg.calls k (⟨#[45,97]⟩ : ByteArray) true _ A3.out).mono ?_);rintro e w' ⟨rfl,⟨nd,rfl⟩⟩))
   go_ret
   exact ⟨by first|rfl|(simp [bB,bC] <;> rfl)|(simp [*,bB,bC] <;> rfl),by repeat (first|(with_reducible first|exact HB.out|apply bW|apply aV|apply bF)|exact HB.out)⟩
  ·replace c4:=Bool.eq_false_iff.mpr c4
   subst c4
   have H1 : ((eD.f k (⟨#[97,46,98,45,99]⟩ : ByteArray)).bind fun Bu=>(if Bu = true then ((bf.f k (⟨#[95,88]⟩ : ByteArray)).bind fun t127=>(some t127)) else (some false))) = some r:=by rw [if_neg (show ¬ (false = true) by decide)] at H;exact H
   clear H
   have H:=H1
   clear H1
   replace H:=Option.bind_eq_some_iff.mp H
   obtain ⟨Bu,BF,H⟩:=H
   replace H : (if Bu = true then ((bf.f k (⟨#[95,88]⟩ : ByteArray)).bind fun t127=>(some t127)) else (some false)) = some r:=H
   have A5:=Aside0.mk BF
   clear BF
   by_cases c6 : Bu = true
   ·subst c6
    have H1 : ((bf.f k (⟨#[95,88]⟩ : ByteArray)).bind fun t127=>(some t127)) = some r:=by rw [if_pos rfl] at H;exact H
    clear H
    have H:=H1
    clear H1
    replace H:=Option.bind_eq_some_iff.mp H
    obtain ⟨t127,BG,H⟩:=H
    replace H : (some t127) = some r:=H
    have A7:=Aside0.mk BG
    clear BG
    obtain rfl:=Option.some.inj H
    go_enter Tryz.func50,Tryz.ntmps50
    go_wp2_with (first|((with_reducible refine bO (f:=70) rfl ?_);refine dZ (some 1) rfl rfl Tryz.func70 (by kernel_rfl) rfl #[.string (⟨#[97,45,49]⟩ : ByteArray)] rfl (by (try simp only [List.map_toArray,List.map_cons,List.map_nil]);first|done|rfl|(simp only [List.length_drop,List.length_take];rfl)|(simp (disch:=first|omega|(simp at *;omega)) only [eu,dD,fA];rfl)) ?_;(with_reducible refine (bg.calls k (⟨#[97,45,49]⟩ : ByteArray) true _ A1.out).mono ?_);rintro e w' ⟨rfl,⟨nd,rfl⟩⟩;refine ⟨_,rfl,?_⟩)|(go_at_call 70;(with_reducible refine (bg.calls k (⟨#[45,97]⟩ : ByteArray) false _ A3.out).mono ?_);rintro e w' ⟨rfl,⟨nd,rfl⟩⟩)|(go_at_call 71;(with_reducible refine (eD.calls k (⟨#[97,46,98,45,99]⟩ : ByteArray) true _ A5.out).mono ?_);rintro e w8 ⟨rfl,hb⟩;have Bw:=Aside0.mk (aN (by repeat (first|(with_reducible first|exact HB.out|apply bW|apply aV|apply bF)|exact HB.out)) hb);clear HB;have HB:=Bw;clear Bw;(try clear hb);(try clear hb2);(try clear hk);(try clear hi))|(go_at_call 72;(with_reducible refine (bf.calls k (⟨#[95,88]⟩ : ByteArray) t127 _ A7.out).mono ?_);rintro e w' ⟨rfl,⟨nd,rfl⟩⟩))
    go_ret
    exact ⟨by first|rfl|(simp [bB,bC] <;> rfl)|(simp [*,bB,bC] <;> rfl),by repeat (first|(with_reducible first|exact HB.out|apply bW|apply aV|apply bF)|exact HB.out)⟩
   ·replace c6:=Bool.eq_false_iff.mpr c6
    subst c6
    have H1 : (some false) = some r:=by rw [if_neg (show ¬ (false = true) by decide)] at H;exact H
    clear H
    have H:=H1
    clear H1
    obtain rfl:=Option.some.inj H
    go_enter Tryz.func50,Tryz.ntmps50
    go_wp2_with (first|((with_reducible refine bO (f:=70) rfl ?_);refine dZ (some 1) rfl rfl Tryz.func70 (by kernel_rfl) rfl #[.string (⟨#[97,45,49]⟩ : ByteArray)] rfl (by (try simp only [List.map_toArray,List.map_cons,List.map_nil]);first|done|rfl|(simp only [List.length_drop,List.length_take];rfl)|(simp (disch:=first|omega|(simp at *;omega)) only [eu,dD,fA];rfl)) ?_;(with_reducible refine (bg.calls k (⟨#[97,45,49]⟩ : ByteArray) true _ A1.out).mono ?_);rintro e w' ⟨rfl,⟨nd,rfl⟩⟩;refine ⟨_,rfl,?_⟩)|(go_at_call 70;(with_reducible refine (bg.calls k (⟨#[45,97]⟩ : ByteArray) false _ A3.out).mono ?_);rintro e w' ⟨rfl,⟨nd,rfl⟩⟩)|(go_at_call 71;(with_reducible refine (eD.calls k (⟨#[97,46,98,45,99]⟩ : ByteArray) false _ A5.out).mono ?_);rintro e w9 ⟨rfl,hb⟩;have Bw:=Aside0.mk (aN (by repeat (first|(with_reducible first|exact HB.out|apply bW|apply aV|apply bF)|exact HB.out)) hb);clear HB;have HB:=Bw;clear Bw;(try clear hb);(try clear hb2);(try clear hk);(try clear hi)))
    go_ret
    exact ⟨by first|rfl|(simp [bB,bC] <;> rfl)|(simp [*,bB,bC] <;> rfl),by repeat (first|(with_reducible first|exact HB.out|apply bW|apply aV|apply bF)|exact HB.out)⟩
 ·replace c2:=Bool.eq_false_iff.mpr c2
  subst c2
  have H1 : (some false) = some r:=by rw [if_neg (show ¬ (false = true) by decide)] at H;exact H
  clear H
  have H:=H1
  clear H1
  obtain rfl:=Option.some.inj H
  go_enter Tryz.func50,Tryz.ntmps50
  go_wp2_with (first|((with_reducible refine bO (f:=70) rfl ?_);refine dZ (some 1) rfl rfl Tryz.func70 (by kernel_rfl) rfl #[.string (⟨#[97,45,49]⟩ : ByteArray)] rfl (by (try simp only [List.map_toArray,List.map_cons,List.map_nil]);first|done|rfl|(simp only [List.length_drop,List.length_take];rfl)|(simp (disch:=first|omega|(simp at *;omega)) only [eu,dD,fA];rfl)) ?_;(with_reducible refine (bg.calls k (⟨#[97,45,49]⟩ : ByteArray) false _ A1.out).mono ?_);rintro e w' ⟨rfl,⟨nd,rfl⟩⟩;refine ⟨_,rfl,?_⟩))
  go_ret
  exact ⟨by first|rfl|(simp [bB,bC] <;> rfl)|(simp [*,bB,bC] <;> rfl),by repeat (first|(with_reducible first|exact HB.out|apply bW|apply aV|apply bF)|exact HB.out)⟩
end Go.Proofs.YtpncpefppifgdaaGreatDoor.GUt
