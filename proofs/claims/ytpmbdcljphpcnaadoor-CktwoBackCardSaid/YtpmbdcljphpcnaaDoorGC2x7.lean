/- Written by this session's own program (wip/gen.py) out of the translation: plain Lean functions of the Go functions, and proofs that the calls come to their answers. No conditions beside those in the statements. -/
import Derived.Test.YtpmbdcljphpcnaaDoorGC2x0
import Derived.Test.YtpmbdcljphpcnaaDoorGC2x3
import Derived.Test.YtpmbdcljphpcnaaDoorGC2x6
import Derived.Test.YtpmbdcljphpcnaaDoorGC2Name
namespace Go.Proofs.YtpmbdcljphpcnaaDoor.GC2
open Go.RowKit Go.Proofs.YtpmbdcljphpcnaaDoorW.PrintWords Go.Proofs.YtpmbdcljphpcnaaDoorW.PrintLast Go.Proofs.YtpmbdcljphpcnaaDoorW.PrintMore
attribute [local go_sem] max2_int min2_int max_two min_two max_three min_three max_four min_four   -- for this text's walks alone
set_option linter.unusedVariables false
set_option linter.unusedSimpArgs false

/-! ### bosunlaw13_Awake: function 34 -/
def bosunlaw13_Awake.f (k : Nat)  : Option (Bool):=(dns_Label.f k (⟨#[97,45,49]⟩ : ByteArray)).bind fun t138=>(if t138 = true then ((dns_Label.f k (⟨#[45,97]⟩ : ByteArray)).bind fun t139=>(if t139 = true then (some false) else ((dns_Name.f k (⟨#[97,46,98,45,99]⟩ : ByteArray)).bind fun t140=>(if t140 = true then ((dns_Variable.f k (⟨#[95,88]⟩ : ByteArray)).bind fun t141=>(some t141)) else (some false))))) else (some false))
theorem bosunlaw13_Awake.mono : ∀ k,LeO (bosunlaw13_Awake.f k ) (bosunlaw13_Awake.f (k + 1) ):=by
 intro  k
 unfold bosunlaw13_Awake.f
 repeat' first
   | (with_reducible exact dns_Label.mono _ _)
   | (with_reducible exact dns_Name.mono _ _)
   | (with_reducible exact dns_Variable.mono _ _)
   | (with_reducible exact LeO.refl _)
   | (with_reducible exact LeO.none _)
   | (with_reducible refine LeO.ite ?_ ?_)
   | (with_reducible refine LeO.bind ?_ (fun _=>?_))
   | exact dns_Label.mono _ _
   | exact dns_Name.mono _ _
   | exact dns_Variable.mono _ _
   | exact LeO.none _
   | refine LeO.ite ?_ ?_
   | refine LeO.bind ?_ (fun _=>?_)
set_option maxHeartbeats 8000000 in
set_option maxRecDepth 100000 in
theorem bosunlaw13_Awake.calls (k : Nat)  (r : Bool) (w : World) (h : bosunlaw13_Awake.f k  = some r) :
  Calls Tryd.prog 34 #[] w fun e w'=>e = .returned (.bool r) ∧ Below w.heap.size w w':=by
 have HB:=Aside0.mk (Below.refl w.heap.size w)
 have H : ((dns_Label.f k (⟨#[97,45,49]⟩ : ByteArray)).bind fun t138=>(if t138 = true then ((dns_Label.f k (⟨#[45,97]⟩ : ByteArray)).bind fun t139=>(if t139 = true then (some false) else ((dns_Name.f k (⟨#[97,46,98,45,99]⟩ : ByteArray)).bind fun t140=>(if t140 = true then ((dns_Variable.f k (⟨#[95,88]⟩ : ByteArray)).bind fun t141=>(some t141)) else (some false))))) else (some false))) = some r:=h
 clear h
 replace H:=Option.bind_eq_some_iff.mp H
 obtain ⟨t138,A10,H⟩:=H
 replace H : (if t138 = true then ((dns_Label.f k (⟨#[45,97]⟩ : ByteArray)).bind fun t139=>(if t139 = true then (some false) else ((dns_Name.f k (⟨#[97,46,98,45,99]⟩ : ByteArray)).bind fun t140=>(if t140 = true then ((dns_Variable.f k (⟨#[95,88]⟩ : ByteArray)).bind fun t141=>(some t141)) else (some false))))) else (some false)) = some r:=H
 have A1:=Aside0.mk A10
 clear A10
 by_cases c2 : t138 = true
 ·subst c2
  have H1 : ((dns_Label.f k (⟨#[45,97]⟩ : ByteArray)).bind fun t139=>(if t139 = true then (some false) else ((dns_Name.f k (⟨#[97,46,98,45,99]⟩ : ByteArray)).bind fun t140=>(if t140 = true then ((dns_Variable.f k (⟨#[95,88]⟩ : ByteArray)).bind fun t141=>(some t141)) else (some false))))) = some r:=by rw [if_pos rfl] at H;exact H
  clear H
  have H:=H1
  clear H1
  replace H:=Option.bind_eq_some_iff.mp H
  obtain ⟨t139,A30,H⟩:=H
  replace H : (if t139 = true then (some false) else ((dns_Name.f k (⟨#[97,46,98,45,99]⟩ : ByteArray)).bind fun t140=>(if t140 = true then ((dns_Variable.f k (⟨#[95,88]⟩ : ByteArray)).bind fun t141=>(some t141)) else (some false)))) = some r:=H
  have A3:=Aside0.mk A30
  clear A30
  by_cases c4 : t139 = true
  ·subst c4
   have H1 : (some false) = some r:=by rw [if_pos rfl] at H;exact H
   clear H
   have H:=H1
   clear H1
   obtain rfl:=Option.some.inj H
   go_enter Tryd.func34,Tryd.ntmps34
   go_wp2_with (first|((with_reducible refine gate_callee (f:=56) rfl ?_);refine goesL_ (some 1) rfl rfl Tryd.func56 (by kernel_rfl) rfl #[.string (⟨#[97,45,49]⟩ : ByteArray)] rfl (by (try simp only [List.map_toArray,List.map_cons,List.map_nil]);first|done|rfl|(simp only [List.length_drop,List.length_take];rfl)|(simp (disch:=first|omega|(simp at *;omega)) only [u64_id,i64_id,u8_id];rfl)) ?_;(with_reducible refine (dns_Label.calls k (⟨#[97,45,49]⟩ : ByteArray) true _ A1.out).mono ?_);rintro e w' ⟨rfl,⟨nd,rfl⟩⟩;refine ⟨_,rfl,?_⟩)|(go_at_call 56;(with_reducible refine (dns_Label.calls k (⟨#[45,97]⟩ : ByteArray) true _ A3.out).mono ?_);rintro e w' ⟨rfl,⟨nd,rfl⟩⟩))
   go_ret
   exact ⟨by first|rfl|(simp [errW_none,errW_some] <;> rfl)|(simp [*,errW_none,errW_some] <;> rfl),by repeat (first|(with_reducible first|exact HB.out|apply below_alloc|apply pw_below_drewN|apply below_drew1)|exact HB.out)⟩
  ·replace c4:=Bool.eq_false_iff.mpr c4
   subst c4
   have H1 : ((dns_Name.f k (⟨#[97,46,98,45,99]⟩ : ByteArray)).bind fun t140=>(if t140 = true then ((dns_Variable.f k (⟨#[95,88]⟩ : ByteArray)).bind fun t141=>(some t141)) else (some false))) = some r:=by rw [if_neg (show ¬ (false = true) by decide)] at H;exact H
   clear H
   have H:=H1
   clear H1
   replace H:=Option.bind_eq_some_iff.mp H
   obtain ⟨t140,A50,H⟩:=H
   replace H : (if t140 = true then ((dns_Variable.f k (⟨#[95,88]⟩ : ByteArray)).bind fun t141=>(some t141)) else (some false)) = some r:=H
   have A5:=Aside0.mk A50
   clear A50
   by_cases c6 : t140 = true
   ·subst c6
    have H1 : ((dns_Variable.f k (⟨#[95,88]⟩ : ByteArray)).bind fun t141=>(some t141)) = some r:=by rw [if_pos rfl] at H;exact H
    clear H
    have H:=H1
    clear H1
    replace H:=Option.bind_eq_some_iff.mp H
    obtain ⟨t141,A70,H⟩:=H
    replace H : (some t141) = some r:=H
    have A7:=Aside0.mk A70
    clear A70
    obtain rfl:=Option.some.inj H
    go_enter Tryd.func34,Tryd.ntmps34
    go_wp2_with (first|((with_reducible refine gate_callee (f:=56) rfl ?_);refine goesL_ (some 1) rfl rfl Tryd.func56 (by kernel_rfl) rfl #[.string (⟨#[97,45,49]⟩ : ByteArray)] rfl (by (try simp only [List.map_toArray,List.map_cons,List.map_nil]);first|done|rfl|(simp only [List.length_drop,List.length_take];rfl)|(simp (disch:=first|omega|(simp at *;omega)) only [u64_id,i64_id,u8_id];rfl)) ?_;(with_reducible refine (dns_Label.calls k (⟨#[97,45,49]⟩ : ByteArray) true _ A1.out).mono ?_);rintro e w' ⟨rfl,⟨nd,rfl⟩⟩;refine ⟨_,rfl,?_⟩)|(go_at_call 56;(with_reducible refine (dns_Label.calls k (⟨#[45,97]⟩ : ByteArray) false _ A3.out).mono ?_);rintro e w' ⟨rfl,⟨nd,rfl⟩⟩)|(go_at_call 41;(with_reducible refine (dns_Name.calls k (⟨#[97,46,98,45,99]⟩ : ByteArray) true _ A5.out).mono ?_);rintro e w8 ⟨rfl,hb⟩;have n0_:=Aside0.mk (below_step (by repeat (first|(with_reducible first|exact HB.out|apply below_alloc|apply pw_below_drewN|apply below_drew1)|exact HB.out)) hb);clear HB;have HB:=n0_;clear n0_;(try clear hb);(try clear hb2);(try clear hk);(try clear hi))|(go_at_call 63;(with_reducible refine (dns_Variable.calls k (⟨#[95,88]⟩ : ByteArray) t141 _ A7.out).mono ?_);rintro e w' ⟨rfl,⟨nd,rfl⟩⟩))
    go_ret
    exact ⟨by first|rfl|(simp [errW_none,errW_some] <;> rfl)|(simp [*,errW_none,errW_some] <;> rfl),by repeat (first|(with_reducible first|exact HB.out|apply below_alloc|apply pw_below_drewN|apply below_drew1)|exact HB.out)⟩
   ·replace c6:=Bool.eq_false_iff.mpr c6
    subst c6
    have H1 : (some false) = some r:=by rw [if_neg (show ¬ (false = true) by decide)] at H;exact H
    clear H
    have H:=H1
    clear H1
    obtain rfl:=Option.some.inj H
    go_enter Tryd.func34,Tryd.ntmps34
    go_wp2_with (first|((with_reducible refine gate_callee (f:=56) rfl ?_);refine goesL_ (some 1) rfl rfl Tryd.func56 (by kernel_rfl) rfl #[.string (⟨#[97,45,49]⟩ : ByteArray)] rfl (by (try simp only [List.map_toArray,List.map_cons,List.map_nil]);first|done|rfl|(simp only [List.length_drop,List.length_take];rfl)|(simp (disch:=first|omega|(simp at *;omega)) only [u64_id,i64_id,u8_id];rfl)) ?_;(with_reducible refine (dns_Label.calls k (⟨#[97,45,49]⟩ : ByteArray) true _ A1.out).mono ?_);rintro e w' ⟨rfl,⟨nd,rfl⟩⟩;refine ⟨_,rfl,?_⟩)|(go_at_call 56;(with_reducible refine (dns_Label.calls k (⟨#[45,97]⟩ : ByteArray) false _ A3.out).mono ?_);rintro e w' ⟨rfl,⟨nd,rfl⟩⟩)|(go_at_call 41;(with_reducible refine (dns_Name.calls k (⟨#[97,46,98,45,99]⟩ : ByteArray) false _ A5.out).mono ?_);rintro e w9 ⟨rfl,hb⟩;have n0_:=Aside0.mk (below_step (by repeat (first|(with_reducible first|exact HB.out|apply below_alloc|apply pw_below_drewN|apply below_drew1)|exact HB.out)) hb);clear HB;have HB:=n0_;clear n0_;(try clear hb);(try clear hb2);(try clear hk);(try clear hi)))
    go_ret
    exact ⟨by first|rfl|(simp [errW_none,errW_some] <;> rfl)|(simp [*,errW_none,errW_some] <;> rfl),by repeat (first|(with_reducible first|exact HB.out|apply below_alloc|apply pw_below_drewN|apply below_drew1)|exact HB.out)⟩
 ·replace c2:=Bool.eq_false_iff.mpr c2
  subst c2
  have H1 : (some false) = some r:=by rw [if_neg (show ¬ (false = true) by decide)] at H;exact H
  clear H
  have H:=H1
  clear H1
  obtain rfl:=Option.some.inj H
  go_enter Tryd.func34,Tryd.ntmps34
  go_wp2_with (first|((with_reducible refine gate_callee (f:=56) rfl ?_);refine goesL_ (some 1) rfl rfl Tryd.func56 (by kernel_rfl) rfl #[.string (⟨#[97,45,49]⟩ : ByteArray)] rfl (by (try simp only [List.map_toArray,List.map_cons,List.map_nil]);first|done|rfl|(simp only [List.length_drop,List.length_take];rfl)|(simp (disch:=first|omega|(simp at *;omega)) only [u64_id,i64_id,u8_id];rfl)) ?_;(with_reducible refine (dns_Label.calls k (⟨#[97,45,49]⟩ : ByteArray) false _ A1.out).mono ?_);rintro e w' ⟨rfl,⟨nd,rfl⟩⟩;refine ⟨_,rfl,?_⟩))
  go_ret
  exact ⟨by first|rfl|(simp [errW_none,errW_some] <;> rfl)|(simp [*,errW_none,errW_some] <;> rfl),by repeat (first|(with_reducible first|exact HB.out|apply below_alloc|apply pw_below_drewN|apply below_drew1)|exact HB.out)⟩

end Go.Proofs.YtpmbdcljphpcnaaDoor.GC2
