/- Written by this session's own program (wip/gen.py) out of the translation: plain Lean functions of the Go functions, and proofs that the calls come to their answers. No conditions beside those in the statements. -/
import Derived.Test.YtpncpefppifgdaaGreatDoorCp
import Derived.Test.YtpncpefppifgdaaGreatDoorGUtx0
import Derived.Test.YtpncpefppifgdaaGreatDoorGUtQuote
import Derived.Test.YtpncpefppifgdaaGreatDoorGUtUnq
import Derived.Test.YtpncpefppifgdaaGreatDoorGW
namespace Go.Proofs.YtpncpefppifgdaaGreatDoor.GUt
open Go.RowKit Go.Proofs.YtpncpefppifgdaaGreatDoorW.PrintWords Go.Proofs.YtpncpefppifgdaaGreatDoorW.PrintLast Go.Proofs.YtpncpefppifgdaaGreatDoorW.PrintMore
attribute [local go_sem] fH fI gF gG eZ fq fJ fK
set_option linter.unusedVariables false
set_option linter.unusedSimpArgs false
def dU.f (k : Nat)  : Option (Bool):=(dI.f k (⟨#[34,92,117,48,48,101,57,34]⟩ : ByteArray)).bind fun Bw=>(if Bw.1.toList = ([195,169] : List UInt8) then (if Bw.2.1 = 8 then (if Bw.2.2 = 0 then ((jc.f (⟨#[97,34,10]⟩ : ByteArray)).bind fun BF=>(some (BF.toList == ([34,97,92,34,92,110,34] : List UInt8)))) else (some false)) else (some false)) else (some false))
theorem dU.mono : ∀ k,LeO (dU.f k ) (dU.f (k + 1) ):=by
 intro  k
 unfold dU.f
 repeat' first
   | (with_reducible exact dI.mono _ _)
   | (with_reducible exact LeO.refl _)
   | (with_reducible exact LeO.none _)
   | (with_reducible refine LeO.ite ?_ ?_)
   | (with_reducible refine LeO.bind ?_ (fun _=>?_))
   | exact dI.mono _ _
   | exact LeO.none _
   | refine LeO.ite ?_ ?_
   | refine LeO.bind ?_ (fun _=>?_)
set_option maxHeartbeats 8000000 in
set_option maxRecDepth 100000 in
theorem dU.calls (k : Nat)  (r : Bool) (w : World) (h : dU.f k  = some r) (hG : GW.GW w) :
  Calls Tryz.prog 82 #[] w fun e w'=>e = .returned (.bool r) ∧ Below w.heap.size w w':=by
 have HB:=Aside0.mk (Below.refl w.heap.size w)
 have H : ((dI.f k (⟨#[34,92,117,48,48,101,57,34]⟩ : ByteArray)).bind fun Bw=>(if Bw.1.toList = ([195,169] : List UInt8) then (if Bw.2.1 = 8 then (if Bw.2.2 = 0 then ((jc.f (⟨#[97,34,10]⟩ : ByteArray)).bind fun BF=>(some (BF.toList == ([34,97,92,34,92,110,34] : List UInt8)))) else (some false)) else (some false)) else (some false))) = some r:=h
 clear h
 replace H:=Option.bind_eq_some_iff.mp H
 obtain ⟨⟨t131,Bz,BD⟩,BH,H⟩:=H
 replace H : (if t131.toList = ([195,169] : List UInt8) then (if Bz = 8 then (if BD = 0 then ((jc.f (⟨#[97,34,10]⟩ : ByteArray)).bind fun BF=>(some (BF.toList == ([34,97,92,34,92,110,34] : List UInt8)))) else (some false)) else (some false)) else (some false)) = some r:=H
 have A1:=Aside0.mk BH
 clear BH
 by_cases c2 : t131.toList = ([195,169] : List UInt8)
 ·rw [if_pos c2] at H
  have c2b0 : (t131.toList == ([195,169] : List UInt8)) = true:=beq_iff_eq.mpr c2
  have c2b1 : (t131.toList != ([195,169] : List UInt8)) = false:=bne_eq_false_iff_eq.mpr c2
  clear c2
  by_cases c3 : Bz = 8
  ·rw [if_pos c3] at H
   have c3b0 : (Bz == 8) = true:=beq_iff_eq.mpr c3
   have c3b1 : (Bz != 8) = false:=bne_eq_false_iff_eq.mpr c3
   clear c3
   by_cases c4 : BD = 0
   ·rw [if_pos c4] at H
    have c4b0 : (BD == 0) = true:=beq_iff_eq.mpr c4
    have c4b1 : (BD != 0) = false:=bne_eq_false_iff_eq.mpr c4
    clear c4
    replace H:=Option.bind_eq_some_iff.mp H
    obtain ⟨BF,BI,H⟩:=H
    replace H : (some (BF.toList == ([34,97,92,34,92,110,34] : List UInt8))) = some r:=H
    have A5:=Aside0.mk BI
    clear BI
    obtain rfl:=Option.some.inj H
    go_enter Tryz.func82,Tryz.ntmps82
    go_wp2_with (first|((with_reducible refine bG (f:=102) rfl ?_);refine dJ (some 5) rfl rfl Tryz.func102 (by kernel_rfl) rfl #[.string (⟨#[34,92,117,48,48,101,57,34]⟩ : ByteArray)] rfl (by (try simp only [List.map_toArray,List.map_cons,List.map_nil]);first|done|rfl|(simp only [List.length_drop,List.length_take];rfl)|(simp (disch:=first|omega|(simp at *;omega)) only [dK,bW,eG];rfl)) ?_;(with_reducible refine (dI.calls k (⟨#[34,92,117,48,48,101,57,34]⟩ : ByteArray) t131 Bz BD _ A1.out (by first|assumption|exact GW.below hG (by first|exact HB.out|assumption|(repeat (first|(with_reducible first|exact HB.out|apply dG|apply bB|apply bL)|exact HB.out)))|exact GW.drawn hG (by first|assumption|(repeat (first|exact Drawn0.refl _|assumption|apply Drawn0.step))))).mono ?_);rintro e w6 ⟨rfl,hb⟩;refine ⟨_,rfl,?_⟩;have BG:=Aside0.mk (aN hb_ hb);clear HB;have HB:=BG;clear BG;(try clear hb);(try clear hb2);(try clear hk);(try clear hi))|(go_at_call 103;(with_reducible refine (jc.calls (⟨#[97,34,10]⟩ : ByteArray) BF _ A5.out).mono ?_);rintro e w7 ⟨rfl,hb⟩;have BG:=Aside0.mk (aN hb_ hb);clear HB;have HB:=BG;clear BG;(try clear hb);(try clear hb2);(try clear hk);(try clear hi)))
    go_ret
    exact ⟨by first|rfl|(simp [bg,bA] <;> rfl)|(simp [*,bg,bA] <;> rfl),hb_⟩
   ·rw [if_neg c4] at H
    have c4b0 : (BD == 0) = false:=beq_eq_false_iff_ne.mpr c4
    have c4b1 : (BD != 0) = true:=bne_iff_ne.mpr c4
    obtain rfl:=Option.some.inj H
    go_enter Tryz.func82,Tryz.ntmps82
    go_wp2_with (first|((with_reducible refine bG (f:=102) rfl ?_);refine dJ (some 5) rfl rfl Tryz.func102 (by kernel_rfl) rfl #[.string (⟨#[34,92,117,48,48,101,57,34]⟩ : ByteArray)] rfl (by (try simp only [List.map_toArray,List.map_cons,List.map_nil]);first|done|rfl|(simp only [List.length_drop,List.length_take];rfl)|(simp (disch:=first|omega|(simp at *;omega)) only [dK,bW,eG];rfl)) ?_;(with_reducible refine (dI.calls k (⟨#[34,92,117,48,48,101,57,34]⟩ : ByteArray) t131 Bz BD _ A1.out (by first|assumption|exact GW.below hG (by first|exact HB.out|assumption|(repeat (first|(with_reducible first|exact HB.out|apply dG|apply bB|apply bL)|exact HB.out)))|exact GW.drawn hG (by first|assumption|(repeat (first|exact Drawn0.refl _|assumption|apply Drawn0.step))))).mono ?_);rintro e w8 ⟨rfl,hb⟩;refine ⟨_,rfl,?_⟩;have BG:=Aside0.mk (aN hb_ hb);clear HB;have HB:=BG;clear BG;(try clear hb);(try clear hb2);(try clear hk);(try clear hi)))
    go_ret
    exact ⟨by first|rfl|(simp [bg,bA] <;> rfl)|(simp [*,bg,bA] <;> rfl),hb_⟩
  ·rw [if_neg c3] at H
   have c3b0 : (Bz == 8) = false:=beq_eq_false_iff_ne.mpr c3
   have c3b1 : (Bz != 8) = true:=bne_iff_ne.mpr c3
   obtain rfl:=Option.some.inj H
   go_enter Tryz.func82,Tryz.ntmps82
   go_wp2_with (first|((with_reducible refine bG (f:=102) rfl ?_);refine dJ (some 5) rfl rfl Tryz.func102 (by kernel_rfl) rfl #[.string (⟨#[34,92,117,48,48,101,57,34]⟩ : ByteArray)] rfl (by (try simp only [List.map_toArray,List.map_cons,List.map_nil]);first|done|rfl|(simp only [List.length_drop,List.length_take];rfl)|(simp (disch:=first|omega|(simp at *;omega)) only [dK,bW,eG];rfl)) ?_;(with_reducible refine (dI.calls k (⟨#[34,92,117,48,48,101,57,34]⟩ : ByteArray) t131 Bz BD _ A1.out (by first|assumption|exact GW.below hG (by first|exact HB.out|assumption|(repeat (first|(with_reducible first|exact HB.out|apply dG|apply bB|apply bL)|exact HB.out)))|exact GW.drawn hG (by first|assumption|(repeat (first|exact Drawn0.refl _|assumption|apply Drawn0.step))))).mono ?_);rintro e w9 ⟨rfl,hb⟩;refine ⟨_,rfl,?_⟩;have BG:=Aside0.mk (aN hb_ hb);clear HB;have HB:=BG;clear BG;(try clear hb);(try clear hb2);(try clear hk);(try clear hi)))
   go_ret
   exact ⟨by first|rfl|(simp [bg,bA] <;> rfl)|(simp [*,bg,bA] <;> rfl),hb_⟩
 ·rw [if_neg c2] at H
  have c2b0 : (t131.toList == ([195,169] : List UInt8)) = false:=beq_eq_false_iff_ne.mpr c2
  have c2b1 : (t131.toList != ([195,169] : List UInt8)) = true:=bne_iff_ne.mpr c2
  obtain rfl:=Option.some.inj H
  go_enter Tryz.func82,Tryz.ntmps82
  go_wp2_with (first|((with_reducible refine bG (f:=102) rfl ?_);refine dJ (some 5) rfl rfl Tryz.func102 (by kernel_rfl) rfl #[.string (⟨#[34,92,117,48,48,101,57,34]⟩ : ByteArray)] rfl (by (try simp only [List.map_toArray,List.map_cons,List.map_nil]);first|done|rfl|(simp only [List.length_drop,List.length_take];rfl)|(simp (disch:=first|omega|(simp at *;omega)) only [dK,bW,eG];rfl)) ?_;(with_reducible refine (dI.calls k (⟨#[34,92,117,48,48,101,57,34]⟩ : ByteArray) t131 Bz BD _ A1.out (by first|assumption|exact GW.below hG (by first|exact HB.out|assumption|(repeat (first|(with_reducible first|exact HB.out|apply dG|apply bB|apply bL)|exact HB.out)))|exact GW.drawn hG (by first|assumption|(repeat (first|exact Drawn0.refl _|assumption|apply Drawn0.step))))).mono ?_);rintro e BJ ⟨rfl,hb⟩;refine ⟨_,rfl,?_⟩;have BG:=Aside0.mk (aN hb_ hb);clear HB;have HB:=BG;clear BG;(try clear hb);(try clear hb2);(try clear hk);(try clear hi)))
  go_ret
  exact ⟨by first|rfl|(simp [bg,bA] <;> rfl)|(simp [*,bg,bA] <;> rfl),hb_⟩
end Go.Proofs.YtpncpefppifgdaaGreatDoor.GUt
