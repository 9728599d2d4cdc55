/- Written by this session's own program (wip/gen.py) out of the translation: plain Lean functions of the Go functions, and proofs that the calls come to their answers. No conditions beside those in the statements. -/
import Derived.Test.YtnkkbiabloodaaaDoorGUtx0
import Derived.Test.YtnkkbiabloodaaaDoorGUtQuote
import Derived.Test.YtnkkbiabloodaaaDoorGUtUnq
import Derived.Test.YtnkkbiabloodaaaDoorGW
namespace Go.Proofs.YtnkkbiabloodaaaDoor.GUt
open Go.RowKit Go.Proofs.YtnkkbiabloodaaaDoorW.PrintWords Go.Proofs.YtnkkbiabloodaaaDoorW.PrintLast Go.Proofs.YtnkkbiabloodaaaDoorW.PrintMore
attribute [local go_sem] max2_int min2_int max_two min_two max_three min_three max_four min_four   -- for this text's walks alone
set_option linter.unusedVariables false
set_option linter.unusedSimpArgs false

/-! ### bosunlaw06_Awake: function 40 -/
def bosunlaw06_Awake.f (k : Nat)  : Option (Bool):=(utf_Unquote.f k (⟨#[34,92,117,48,48,101,57,34]⟩ : ByteArray)).bind fun bt120=>(if bt120.1.toList = ([195,169] : List UInt8) then (if bt120.2.1 = 8 then (if bt120.2.2 = 0 then ((utf_Quote.f (⟨#[97,34,10]⟩ : ByteArray)).bind fun t123=>(some (t123.toList == ([34,97,92,34,92,110,34] : List UInt8)))) else (some false)) else (some false)) else (some false))
theorem bosunlaw06_Awake.mono : ∀ k,LeO (bosunlaw06_Awake.f k ) (bosunlaw06_Awake.f (k + 1) ):=by
 intro  k
 unfold bosunlaw06_Awake.f
 repeat' first
   | (with_reducible exact utf_Unquote.mono _ _)
   | (with_reducible exact LeO.refl _)
   | (with_reducible exact LeO.none _)
   | (with_reducible refine LeO.ite ?_ ?_)
   | (with_reducible refine LeO.bind ?_ (fun _=>?_))
   | exact utf_Unquote.mono _ _
   | exact LeO.none _
   | refine LeO.ite ?_ ?_
   | refine LeO.bind ?_ (fun _=>?_)
set_option maxHeartbeats 8000000 in
set_option maxRecDepth 100000 in
theorem bosunlaw06_Awake.calls (k : Nat)  (r : Bool) (w : World) (h : bosunlaw06_Awake.f k  = some r) (hG : GW.GW w) :
  Calls Tryd.prog 40 #[] w fun e w'=>e = .returned (.bool r) ∧ Below w.heap.size w w':=by
 have HB:=Aside0.mk (Below.refl w.heap.size w)
 have H : ((utf_Unquote.f k (⟨#[34,92,117,48,48,101,57,34]⟩ : ByteArray)).bind fun bt120=>(if bt120.1.toList = ([195,169] : List UInt8) then (if bt120.2.1 = 8 then (if bt120.2.2 = 0 then ((utf_Quote.f (⟨#[97,34,10]⟩ : ByteArray)).bind fun t123=>(some (t123.toList == ([34,97,92,34,92,110,34] : List UInt8)))) else (some false)) else (some false)) else (some false))) = some r:=h
 clear h
 replace H:=Option.bind_eq_some_iff.mp H
 obtain ⟨⟨t120,t121,t122⟩,A10,H⟩:=H
 replace H : (if t120.toList = ([195,169] : List UInt8) then (if t121 = 8 then (if t122 = 0 then ((utf_Quote.f (⟨#[97,34,10]⟩ : ByteArray)).bind fun t123=>(some (t123.toList == ([34,97,92,34,92,110,34] : List UInt8)))) else (some false)) else (some false)) else (some false)) = some r:=H
 have A1:=Aside0.mk A10
 clear A10
 by_cases c2 : t120.toList = ([195,169] : List UInt8)
 ·rw [if_pos c2] at H
  have c2b0 : (t120.toList == ([195,169] : List UInt8)) = true:=beq_iff_eq.mpr c2
  have c2b1 : (t120.toList != ([195,169] : List UInt8)) = false:=bne_eq_false_iff_eq.mpr c2
  clear c2
  by_cases c3 : t121 = 8
  ·rw [if_pos c3] at H
   have c3b0 : (t121 == 8) = true:=beq_iff_eq.mpr c3
   have c3b1 : (t121 != 8) = false:=bne_eq_false_iff_eq.mpr c3
   clear c3
   by_cases c4 : t122 = 0
   ·rw [if_pos c4] at H
    have c4b0 : (t122 == 0) = true:=beq_iff_eq.mpr c4
    have c4b1 : (t122 != 0) = false:=bne_eq_false_iff_eq.mpr c4
    clear c4
    replace H:=Option.bind_eq_some_iff.mp H
    obtain ⟨t123,A50,H⟩:=H
    replace H : (some (t123.toList == ([34,97,92,34,92,110,34] : List UInt8))) = some r:=H
    have A5:=Aside0.mk A50
    clear A50
    obtain rfl:=Option.some.inj H
    go_enter Tryd.func40,Tryd.ntmps40
    go_wp2_with (first|((with_reducible refine gate_callee (f:=50) rfl ?_);refine goesL_ (some 5) rfl rfl Tryd.func50 (by kernel_rfl) rfl #[.string (⟨#[34,92,117,48,48,101,57,34]⟩ : ByteArray)] rfl (by (try simp only [List.map_toArray,List.map_cons,List.map_nil]);first|done|rfl|(simp only [List.length_drop,List.length_take];rfl)|(simp (disch:=first|omega|(simp at *;omega)) only [u64_id,i64_id,u8_id];rfl)) ?_;(with_reducible refine (utf_Unquote.calls k (⟨#[34,92,117,48,48,101,57,34]⟩ : ByteArray) t120 t121 t122 _ A1.out (by first|assumption|exact GW.below hG (by first|exact HB.out|assumption|(repeat (first|(with_reducible first|exact HB.out|apply below_alloc|apply pw_below_drewN|apply below_drew1)|exact HB.out)))|exact GW.drawn hG (by first|assumption|(repeat (first|exact Drawn0.refl _|assumption|apply Drawn0.step))))).mono ?_);rintro e w6 ⟨rfl,hb⟩;refine ⟨_,rfl,?_⟩;have n0_:=Aside0.mk (below_step (by repeat (first|(with_reducible first|exact HB.out|apply below_alloc|apply pw_below_drewN|apply below_drew1)|exact HB.out)) hb);clear HB;have HB:=n0_;clear n0_;(try clear hb);(try clear hb2);(try clear hk);(try clear hi))|(go_at_call 51;(with_reducible refine (utf_Quote.calls (⟨#[97,34,10]⟩ : ByteArray) t123 _ A5.out).mono ?_);rintro e w7 ⟨rfl,hb⟩;have n0_:=Aside0.mk (below_step (by repeat (first|(with_reducible first|exact HB.out|apply below_alloc|apply pw_below_drewN|apply below_drew1)|exact HB.out)) hb);clear HB;have HB:=n0_;clear n0_;(try clear hb);(try clear hb2);(try clear hk);(try clear hi)))
    go_ret
    exact ⟨by first|rfl|(simp [errW_none,errW_some] <;> rfl)|(simp [*,errW_none,errW_some] <;> rfl),by repeat (first|(with_reducible first|exact HB.out|apply below_alloc|apply pw_below_drewN|apply below_drew1)|exact HB.out)⟩
   ·rw [if_neg c4] at H
    have c4b0 : (t122 == 0) = false:=beq_eq_false_iff_ne.mpr c4
    have c4b1 : (t122 != 0) = true:=bne_iff_ne.mpr c4
    obtain rfl:=Option.some.inj H
    go_enter Tryd.func40,Tryd.ntmps40
    go_wp2_with (first|((with_reducible refine gate_callee (f:=50) rfl ?_);refine goesL_ (some 5) rfl rfl Tryd.func50 (by kernel_rfl) rfl #[.string (⟨#[34,92,117,48,48,101,57,34]⟩ : ByteArray)] rfl (by (try simp only [List.map_toArray,List.map_cons,List.map_nil]);first|done|rfl|(simp only [List.length_drop,List.length_take];rfl)|(simp (disch:=first|omega|(simp at *;omega)) only [u64_id,i64_id,u8_id];rfl)) ?_;(with_reducible refine (utf_Unquote.calls k (⟨#[34,92,117,48,48,101,57,34]⟩ : ByteArray) t120 t121 t122 _ A1.out (by first|assumption|exact GW.below hG (by first|exact HB.out|assumption|(repeat (first|(with_reducible first|exact HB.out|apply below_alloc|apply pw_below_drewN|apply below_drew1)|exact HB.out)))|exact GW.drawn hG (by first|assumption|(repeat (first|exact Drawn0.refl _|assumption|apply Drawn0.step))))).mono ?_);rintro e w8 ⟨rfl,hb⟩;refine ⟨_,rfl,?_⟩;have n0_:=Aside0.mk (below_step (by repeat (first|(with_reducible first|exact HB.out|apply below_alloc|apply pw_below_drewN|apply below_drew1)|exact HB.out)) hb);clear HB;have HB:=n0_;clear n0_;(try clear hb);(try clear hb2);(try clear hk);(try clear hi)))
    go_ret
    exact ⟨by first|rfl|(simp [errW_none,errW_some] <;> rfl)|(simp [*,errW_none,errW_some] <;> rfl),by repeat (first|(with_reducible first|exact HB.out|apply below_alloc|apply pw_below_drewN|apply below_drew1)|exact HB.out)⟩
  ·rw [if_neg c3] at H
   have c3b0 : (t121 == 8) = false:=beq_eq_false_iff_ne.mpr c3
   have c3b1 : (t121 != 8) = true:=bne_iff_ne.mpr c3
   obtain rfl:=Option.some.inj H
   go_enter Tryd.func40,Tryd.ntmps40
   go_wp2_with (first|((with_reducible refine gate_callee (f:=50) rfl ?_);refine goesL_ (some 5) rfl rfl Tryd.func50 (by kernel_rfl) rfl #[.string (⟨#[34,92,117,48,48,101,57,34]⟩ : ByteArray)] rfl (by (try simp only [List.map_toArray,List.map_cons,List.map_nil]);first|done|rfl|(simp only [List.length_drop,List.length_take];rfl)|(simp (disch:=first|omega|(simp at *;omega)) only [u64_id,i64_id,u8_id];rfl)) ?_;(with_reducible refine (utf_Unquote.calls k (⟨#[34,92,117,48,48,101,57,34]⟩ : ByteArray) t120 t121 t122 _ A1.out (by first|assumption|exact GW.below hG (by first|exact HB.out|assumption|(repeat (first|(with_reducible first|exact HB.out|apply below_alloc|apply pw_below_drewN|apply below_drew1)|exact HB.out)))|exact GW.drawn hG (by first|assumption|(repeat (first|exact Drawn0.refl _|assumption|apply Drawn0.step))))).mono ?_);rintro e w9 ⟨rfl,hb⟩;refine ⟨_,rfl,?_⟩;have n0_:=Aside0.mk (below_step (by repeat (first|(with_reducible first|exact HB.out|apply below_alloc|apply pw_below_drewN|apply below_drew1)|exact HB.out)) hb);clear HB;have HB:=n0_;clear n0_;(try clear hb);(try clear hb2);(try clear hk);(try clear hi)))
   go_ret
   exact ⟨by first|rfl|(simp [errW_none,errW_some] <;> rfl)|(simp [*,errW_none,errW_some] <;> rfl),by repeat (first|(with_reducible first|exact HB.out|apply below_alloc|apply pw_below_drewN|apply below_drew1)|exact HB.out)⟩
 ·rw [if_neg c2] at H
  have c2b0 : (t120.toList == ([195,169] : List UInt8)) = false:=beq_eq_false_iff_ne.mpr c2
  have c2b1 : (t120.toList != ([195,169] : List UInt8)) = true:=bne_iff_ne.mpr c2
  obtain rfl:=Option.some.inj H
  go_enter Tryd.func40,Tryd.ntmps40
  go_wp2_with (first|((with_reducible refine gate_callee (f:=50) rfl ?_);refine goesL_ (some 5) rfl rfl Tryd.func50 (by kernel_rfl) rfl #[.string (⟨#[34,92,117,48,48,101,57,34]⟩ : ByteArray)] rfl (by (try simp only [List.map_toArray,List.map_cons,List.map_nil]);first|done|rfl|(simp only [List.length_drop,List.length_take];rfl)|(simp (disch:=first|omega|(simp at *;omega)) only [u64_id,i64_id,u8_id];rfl)) ?_;(with_reducible refine (utf_Unquote.calls k (⟨#[34,92,117,48,48,101,57,34]⟩ : ByteArray) t120 t121 t122 _ A1.out (by first|assumption|exact GW.below hG (by first|exact HB.out|assumption|(repeat (first|(with_reducible first|exact HB.out|apply below_alloc|apply pw_below_drewN|apply below_drew1)|exact HB.out)))|exact GW.drawn hG (by first|assumption|(repeat (first|exact Drawn0.refl _|assumption|apply Drawn0.step))))).mono ?_);rintro e w10 ⟨rfl,hb⟩;refine ⟨_,rfl,?_⟩;have n0_:=Aside0.mk (below_step (by repeat (first|(with_reducible first|exact HB.out|apply below_alloc|apply pw_below_drewN|apply below_drew1)|exact HB.out)) hb);clear HB;have HB:=n0_;clear n0_;(try clear hb);(try clear hb2);(try clear hk);(try clear hi)))
  go_ret
  exact ⟨by first|rfl|(simp [errW_none,errW_some] <;> rfl)|(simp [*,errW_none,errW_some] <;> rfl),by repeat (first|(with_reducible first|exact HB.out|apply below_alloc|apply pw_below_drewN|apply below_drew1)|exact HB.out)⟩

end Go.Proofs.YtnkkbiabloodaaaDoor.GUt
