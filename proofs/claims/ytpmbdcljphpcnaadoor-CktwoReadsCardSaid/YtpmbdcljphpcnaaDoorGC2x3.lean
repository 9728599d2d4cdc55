/- Written by this session's own program (wip/gen.py) out of the translation: plain Lean functions of the Go functions, and proofs that the calls come to their answers. No conditions beside those in the statements. -/
import Derived.Test.YtpmbdcljphpcnaaDoorGC2x0
import Derived.Test.YtpmbdcljphpcnaaDoorGC2x1
import Derived.Test.YtpmbdcljphpcnaaDoorGC2x2
import Derived.Test.YtpmbdcljphpcnaaDoorGC2Name
namespace Go.Proofs.YtpmbdcljphpcnaaDoor.GC2
open Go.RowKit Go.Proofs.YtpmbdcljphpcnaaDoorW.PrintWords Go.Proofs.YtpmbdcljphpcnaaDoorW.PrintLast Go.Proofs.YtpmbdcljphpcnaaDoorW.PrintMore
attribute [local go_sem] fO fP gI gJ fF fG fQ fT
set_option linter.unusedVariables false
set_option linter.unusedSimpArgs false
def dP.f (k : Nat)  : Option (Bool):=(bB.f k (⟨#[97,45,49]⟩ : ByteArray)).bind fun t116=>(if t116 = true then ((bB.f k (⟨#[45,97]⟩ : ByteArray)).bind fun t117=>(if t117 = true then (some false) else ((dR.f k (⟨#[97,46,98,45,99]⟩ : ByteArray)).bind fun zL=>(if zL = true then ((bF.f k (⟨#[95,88]⟩ : ByteArray)).bind fun t119=>(some t119)) else (some false))))) else (some false))
theorem dP.mono : ∀ k,LeO (dP.f k ) (dP.f (k + 1) ):=by
 intro  k
 unfold dP.f
 repeat' first
   | (with_reducible exact bB.mono _ _)
   | (with_reducible exact dR.mono _ _)
   | (with_reducible exact bF.mono _ _)
   | (with_reducible exact LeO.refl _)
   | (with_reducible exact LeO.none _)
   | (with_reducible refine LeO.ite ?_ ?_)
   | (with_reducible refine LeO.bind ?_ (fun _=>?_))
   | exact bB.mono _ _
   | exact dR.mono _ _
   | exact bF.mono _ _
   | exact LeO.none _
   | refine LeO.ite ?_ ?_
   | refine LeO.bind ?_ (fun _=>?_)
set_option maxHeartbeats 8000000 in
set_option maxRecDepth 100000 in
theorem dP.calls (k : Nat)  (r : Bool) (w : World) (h : dP.f k  = some r) :
  Calls Tryd.prog 34 #[] w fun e w'=>e = .returned (.bool r) ∧ Below w.heap.size w w':=by
 have HB:=Aside0.mk (Below.refl w.heap.size w)
 have H : ((bB.f k (⟨#[97,45,49]⟩ : ByteArray)).bind fun t116=>(if t116 = true then ((bB.f k (⟨#[45,97]⟩ : ByteArray)).bind fun t117=>(if t117 = true then (some false) else ((dR.f k (⟨#[97,46,98,45,99]⟩ : ByteArray)).bind fun zL=>(if zL = true then ((bF.f k (⟨#[95,88]⟩ : ByteArray)).bind fun t119=>(some t119)) else (some false))))) else (some false))) = some r:=h
 clear h
 replace H:=Option.bind_eq_some_iff.mp H
 obtain ⟨t116,zN,H⟩:=H
 replace H : (if t116 = true then ((bB.f k (⟨#[45,97]⟩ : ByteArray)).bind fun t117=>(if t117 = true then (some false) else ((dR.f k (⟨#[97,46,98,45,99]⟩ : ByteArray)).bind fun zL=>(if zL = true then ((bF.f k (⟨#[95,88]⟩ : ByteArray)).bind fun t119=>(some t119)) else (some false))))) else (some false)) = some r:=H
 have A1:=Aside0.mk zN
 clear zN
 by_cases c2 : t116 = true
 ·subst c2
  have H1 : ((bB.f k (⟨#[45,97]⟩ : ByteArray)).bind fun t117=>(if t117 = true then (some false) else ((dR.f k (⟨#[97,46,98,45,99]⟩ : ByteArray)).bind fun zL=>(if zL = true then ((bF.f k (⟨#[95,88]⟩ : ByteArray)).bind fun t119=>(some t119)) else (some false))))) = some r:=by rw [if_pos rfl] at H;exact H
  clear H
  have H:=H1
  clear H1
  replace H:=Option.bind_eq_some_iff.mp H
  obtain ⟨t117,zO,H⟩:=H
  replace H : (if t117 = true then (some false) else ((dR.f k (⟨#[97,46,98,45,99]⟩ : ByteArray)).bind fun zL=>(if zL = true then ((bF.f k (⟨#[95,88]⟩ : ByteArray)).bind fun t119=>(some t119)) else (some false)))) = some r:=H
  have A3:=Aside0.mk zO
  clear zO
  by_cases c4 : t117 = true
  ·subst c4
   have H1 : (some false) = some r:=by rw [if_pos rfl] at H;exact H
   clear H
   have H:=H1
   clear H1
   obtain rfl:=Option.some.inj H
   go_enter Tryd.func34,Tryd.ntmps34
   go_wp2_with (first|((with_reducible refine bA (f:=56) rfl ?_);refine cO (some 1) rfl rfl Tryd.func56 (by kernel_rfl) rfl #[.string (⟨#[97,45,49]⟩ : ByteArray)] rfl (by (try simp only [List.map_toArray,List.map_cons,List.map_nil]);first|done|rfl|(simp only [List.length_drop,List.length_take];rfl)|(simp (disch:=first|omega|(simp at *;omega)) only [bY,bJ,dF];rfl)) ?_;(with_reducible refine (bB.calls k (⟨#[97,45,49]⟩ : ByteArray) true _ A1.out).mono ?_);rintro e w' ⟨rfl,⟨nd,rfl⟩⟩;refine ⟨_,rfl,?_⟩)|(go_at_call 56;(with_reducible refine (bB.calls k (⟨#[45,97]⟩ : ByteArray) true _ A3.out).mono ?_);rintro e w' ⟨rfl,⟨nd,rfl⟩⟩))
   go_ret
   exact ⟨by first|rfl|(simp [aY,aZ] <;> rfl)|(simp [*,aY,aZ] <;> rfl),by repeat (first|(with_reducible first|exact HB.out|apply aD|apply ak|apply aC)|exact HB.out)⟩
  ·replace c4:=Bool.eq_false_iff.mpr c4
   subst c4
   have H1 : ((dR.f k (⟨#[97,46,98,45,99]⟩ : ByteArray)).bind fun zL=>(if zL = true then ((bF.f k (⟨#[95,88]⟩ : ByteArray)).bind fun t119=>(some t119)) else (some false))) = some r:=by rw [if_neg (show ¬ (false = true) by decide)] at H;exact H
   clear H
   have H:=H1
   clear H1
   replace H:=Option.bind_eq_some_iff.mp H
   obtain ⟨zL,zP,H⟩:=H
   replace H : (if zL = true then ((bF.f k (⟨#[95,88]⟩ : ByteArray)).bind fun t119=>(some t119)) else (some false)) = some r:=H
   have A5:=Aside0.mk zP
   clear zP
   by_cases c6 : zL = true
   ·subst c6
    have H1 : ((bF.f k (⟨#[95,88]⟩ : ByteArray)).bind fun t119=>(some t119)) = some r:=by rw [if_pos rfl] at H;exact H
    clear H
    have H:=H1
    clear H1
    replace H:=Option.bind_eq_some_iff.mp H
    obtain ⟨t119,zQ,H⟩:=H
    replace H : (some t119) = some r:=H
    have A7:=Aside0.mk zQ
    clear zQ
    obtain rfl:=Option.some.inj H
    go_enter Tryd.func34,Tryd.ntmps34
    go_wp2_with (first|((with_reducible refine bA (f:=56) rfl ?_);refine cO (some 1) rfl rfl Tryd.func56 (by kernel_rfl) rfl #[.string (⟨#[97,45,49]⟩ : ByteArray)] rfl (by (try simp only [List.map_toArray,List.map_cons,List.map_nil]);first|done|rfl|(simp only [List.length_drop,List.length_take];rfl)|(simp (disch:=first|omega|(simp at *;omega)) only [bY,bJ,dF];rfl)) ?_;(with_reducible refine (bB.calls k (⟨#[97,45,49]⟩ : ByteArray) true _ A1.out).mono ?_);rintro e w' ⟨rfl,⟨nd,rfl⟩⟩;refine ⟨_,rfl,?_⟩)|(go_at_call 56;(with_reducible refine (bB.calls k (⟨#[45,97]⟩ : ByteArray) false _ A3.out).mono ?_);rintro e w' ⟨rfl,⟨nd,rfl⟩⟩)|(go_at_call 41;(with_reducible refine (dR.calls k (⟨#[97,46,98,45,99]⟩ : ByteArray) true _ A5.out).mono ?_);rintro e w8 ⟨rfl,hb⟩;have zM:=Aside0.mk (aU (by repeat (first|(with_reducible first|exact HB.out|apply aD|apply ak|apply aC)|exact HB.out)) hb);clear HB;have HB:=zM;clear zM;(try clear hb);(try clear hb2);(try clear hk);(try clear hi))|(go_at_call 63;(with_reducible refine (bF.calls k (⟨#[95,88]⟩ : ByteArray) t119 _ A7.out).mono ?_);rintro e w' ⟨rfl,⟨nd,rfl⟩⟩))
    go_ret
    exact ⟨by first|rfl|(simp [aY,aZ] <;> rfl)|(simp [*,aY,aZ] <;> rfl),by repeat (first|(with_reducible first|exact HB.out|apply aD|apply ak|apply aC)|exact HB.out)⟩
   ·replace c6:=Bool.eq_false_iff.mpr c6
    subst c6
    have H1 : (some false) = some r:=by rw [if_neg (show ¬ (false = true) by decide)] at H;exact H
    clear H
    have H:=H1
    clear H1
    obtain rfl:=Option.some.inj H
    go_enter Tryd.func34,Tryd.ntmps34
    go_wp2_with (first|((with_reducible refine bA (f:=56) rfl ?_);refine cO (some 1) rfl rfl Tryd.func56 (by kernel_rfl) rfl #[.string (⟨#[97,45,49]⟩ : ByteArray)] rfl (by (try simp only [List.map_toArray,List.map_cons,List.map_nil]);first|done|rfl|(simp only [List.length_drop,List.length_take];rfl)|(simp (disch:=first|omega|(simp at *;omega)) only [bY,bJ,dF];rfl)) ?_;(with_reducible refine (bB.calls k (⟨#[97,45,49]⟩ : ByteArray) true _ A1.out).mono ?_);rintro e w' ⟨rfl,⟨nd,rfl⟩⟩;refine ⟨_,rfl,?_⟩)|(go_at_call 56;(with_reducible refine (bB.calls k (⟨#[45,97]⟩ : ByteArray) false _ A3.out).mono ?_);rintro e w' ⟨rfl,⟨nd,rfl⟩⟩)|(go_at_call 41;(with_reducible refine (dR.calls k (⟨#[97,46,98,45,99]⟩ : ByteArray) false _ A5.out).mono ?_);rintro e w9 ⟨rfl,hb⟩;have zM:=Aside0.mk (aU (by repeat (first|(with_reducible first|exact HB.out|apply aD|apply ak|apply aC)|exact HB.out)) hb);clear HB;have HB:=zM;clear zM;(try clear hb);(try clear hb2);(try clear hk);(try clear hi)))
    go_ret
    exact ⟨by first|rfl|(simp [aY,aZ] <;> rfl)|(simp [*,aY,aZ] <;> rfl),by repeat (first|(with_reducible first|exact HB.out|apply aD|apply ak|apply aC)|exact HB.out)⟩
 ·replace c2:=Bool.eq_false_iff.mpr c2
  subst c2
  have H1 : (some false) = some r:=by rw [if_neg (show ¬ (false = true) by decide)] at H;exact H
  clear H
  have H:=H1
  clear H1
  obtain rfl:=Option.some.inj H
  go_enter Tryd.func34,Tryd.ntmps34
  go_wp2_with (first|((with_reducible refine bA (f:=56) rfl ?_);refine cO (some 1) rfl rfl Tryd.func56 (by kernel_rfl) rfl #[.string (⟨#[97,45,49]⟩ : ByteArray)] rfl (by (try simp only [List.map_toArray,List.map_cons,List.map_nil]);first|done|rfl|(simp only [List.length_drop,List.length_take];rfl)|(simp (disch:=first|omega|(simp at *;omega)) only [bY,bJ,dF];rfl)) ?_;(with_reducible refine (bB.calls k (⟨#[97,45,49]⟩ : ByteArray) false _ A1.out).mono ?_);rintro e w' ⟨rfl,⟨nd,rfl⟩⟩;refine ⟨_,rfl,?_⟩))
  go_ret
  exact ⟨by first|rfl|(simp [aY,aZ] <;> rfl)|(simp [*,aY,aZ] <;> rfl),by repeat (first|(with_reducible first|exact HB.out|apply aD|apply ak|apply aC)|exact HB.out)⟩
end Go.Proofs.YtpmbdcljphpcnaaDoor.GC2
