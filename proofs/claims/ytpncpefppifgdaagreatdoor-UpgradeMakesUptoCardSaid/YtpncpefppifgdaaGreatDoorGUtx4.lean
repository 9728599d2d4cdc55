/- Written by this session's own program (wip/gen.py) out of the translation: plain Lean functions of the Go functions, and proofs that the calls come to their answers. No conditions beside those in the statements. -/
import Derived.Test.YtpncpefppifgdaaGreatDoorCp
import Derived.Test.YtpncpefppifgdaaGreatDoorGUtx0
import Derived.Test.YtpncpefppifgdaaGreatDoorGUtx1
import Derived.Test.YtpncpefppifgdaaGreatDoorGUtx3
import Derived.Test.YtpncpefppifgdaaGreatDoorGUtEnc1
namespace Go.Proofs.YtpncpefppifgdaaGreatDoor.GUt
open Go.RowKit Go.Proofs.YtpncpefppifgdaaGreatDoorW.PrintWords Go.Proofs.YtpncpefppifgdaaGreatDoorW.PrintLast Go.Proofs.YtpncpefppifgdaaGreatDoorW.PrintMore
attribute [local go_sem] fZ gq gM gN fM fO gu gD
set_option linter.unusedVariables false
set_option linter.unusedSimpArgs false
def bI.f (k : Nat)  : Option (Bool):=(dQ.f k 1 ([] : List (S67))).bind fun Bv=>((eF.f k).bind fun t130=>(if t130 = true then ((cK.f k).bind fun t131=>(if t131 = true then (if Bv.2 = 0 then (some (Bv.1.toList == ([0,0,0,1,0,0] : List UInt8))) else (some false)) else (some false))) else (some false)))
theorem bI.mono : ∀ k,LeO (bI.f k ) (bI.f (k + 1) ):=by
 intro  k
 unfold bI.f
 repeat' first
   | (with_reducible exact eF.mono _)
   | (with_reducible exact cK.mono _)
   | (with_reducible exact dQ.mono _ _ _)
   | (with_reducible exact LeO.refl _)
   | (with_reducible exact LeO.none _)
   | (with_reducible refine LeO.ite ?_ ?_)
   | (with_reducible refine LeO.bind ?_ (fun _=>?_))
   | exact eF.mono _
   | exact cK.mono _
   | exact dQ.mono _ _ _
   | exact LeO.none _
   | refine LeO.ite ?_ ?_
   | refine LeO.bind ?_ (fun _=>?_)
set_option maxHeartbeats 8000000 in
set_option maxRecDepth 100000 in
theorem bI.kI (k : Nat)  (r : Bool) (w : World) (h : bI.f k  = some r) (hT : r = true) :
  Calls Tryz.prog 26 #[] w fun e w'=>e = .returned (.bool r) ∧ Below w.heap.size w w':=by
 have HTr:=Aside0.mk hT
 clear hT
 have BJ:=Tryz.underlying25
 have HB:=Aside0.mk (Below.refl w.heap.size w)
 have H : ((dQ.f k 1 ([] : List (S67))).bind fun Bv=>((eF.f k).bind fun t130=>(if t130 = true then ((cK.f k).bind fun t131=>(if t131 = true then (if Bv.2 = 0 then (some (Bv.1.toList == ([0,0,0,1,0,0] : List UInt8))) else (some false)) else (some false))) else (some false)))) = some r:=h
 clear h
 replace H:=Option.bind_eq_some_iff.mp H
 obtain ⟨⟨Bw,Bu⟩,BG,H⟩:=H
 replace H : ((eF.f k).bind fun t130=>(if t130 = true then ((cK.f k).bind fun t131=>(if t131 = true then (if Bu = 0 then (some (Bw.toList == ([0,0,0,1,0,0] : List UInt8))) else (some false)) else (some false))) else (some false))) = some r:=H
 have A1:=Aside0.mk BG
 clear BG
 replace H:=Option.bind_eq_some_iff.mp H
 obtain ⟨t130,BH,H⟩:=H
 replace H : (if t130 = true then ((cK.f k).bind fun t131=>(if t131 = true then (if Bu = 0 then (some (Bw.toList == ([0,0,0,1,0,0] : List UInt8))) else (some false)) else (some false))) else (some false)) = some r:=H
 have A2:=Aside0.mk BH
 clear BH
 by_cases c3 : t130 = true
 ·subst c3
  have H1 : ((cK.f k).bind fun t131=>(if t131 = true then (if Bu = 0 then (some (Bw.toList == ([0,0,0,1,0,0] : List UInt8))) else (some false)) else (some false))) = some r:=by rw [if_pos rfl] at H;exact H
  clear H
  have H:=H1
  clear H1
  replace H:=Option.bind_eq_some_iff.mp H
  obtain ⟨t131,BI,H⟩:=H
  replace H : (if t131 = true then (if Bu = 0 then (some (Bw.toList == ([0,0,0,1,0,0] : List UInt8))) else (some false)) else (some false)) = some r:=H
  have A4:=Aside0.mk BI
  clear BI
  by_cases c5 : t131 = true
  ·subst c5
   have H1 : (if Bu = 0 then (some (Bw.toList == ([0,0,0,1,0,0] : List UInt8))) else (some false)) = some r:=by rw [if_pos rfl] at H;exact H
   clear H
   have H:=H1
   clear H1
   by_cases c6 : Bu = 0
   ·rw [if_pos c6] at H
    have c6b0 : (Bu == 0) = true:=beq_iff_eq.mpr c6
    have c6b1 : (Bu != 0) = false:=bne_eq_false_iff_eq.mpr c6
    clear c6
    obtain rfl:=Option.some.inj H
    go_enter Tryz.func26,Tryz.ntmps26
    go_wp2_with (first|((with_reducible refine bO (f:=48) rfl ?_);refine dZ (some 5) rfl rfl Tryz.func48 (by kernel_rfl) rfl #[.agg #[.int .u32 1,.slice none 0 0]] rfl (by (try simp only [List.map_toArray,List.map_cons,List.map_nil]);first|done|rfl|(simp only [List.length_drop,List.length_take];rfl)|(simp (disch:=first|omega|(simp at *;omega)) only [eu,dD,fA];rfl)) ?_;(refine (dQ.calls k 1 _ _ ([] : List (S67)) Bw Bu _ ?BD ?BF A1.out).mono ?_);(case BD=>exact Kd.sV _ _);(case BF=>exact Nat.le_refl _);rintro e w7 ⟨rfl,hb⟩;refine ⟨_,rfl,?_⟩;have Bz:=Aside0.mk (aN hb_ hb);clear HB;have HB:=Bz;clear Bz;(try clear hb);(try clear hb2);(try clear hk);(try clear hi))|((with_reducible refine bO (f:=49) rfl ?_);refine dZ (some 8) rfl rfl Tryz.func49 (by kernel_rfl) rfl #[] rfl (by (try simp only [List.map_toArray,List.map_cons,List.map_nil]);first|done|rfl|(simp only [List.length_drop,List.length_take];rfl)|(simp (disch:=first|omega|(simp at *;omega)) only [eu,dD,fA];rfl)) ?_;(with_reducible refine (eF.calls k  true _ A2.out).mono ?_);rintro e w8 ⟨rfl,hb⟩;refine ⟨_,rfl,?_⟩;have Bz:=Aside0.mk (aN hb_ hb);clear HB;have HB:=Bz;clear Bz;(try clear hb);(try clear hb2);(try clear hk);(try clear hi))|(go_at_call 50;(with_reducible refine (cK.calls k  true _ A4.out).mono ?_);rintro e w9 ⟨rfl,hb⟩;have Bz:=Aside0.mk (aN hb_ hb);clear HB;have HB:=Bz;clear Bz;(try clear hb);(try clear hb2);(try clear hk);(try clear hi)))
    go_ret
    exact ⟨by first|rfl|(simp [bB,bC] <;> rfl)|(simp [*,bB,bC] <;> rfl),hb_⟩
   ·rw [if_neg c6] at H
    have c6b0 : (Bu == 0) = false:=beq_eq_false_iff_ne.mpr c6
    have c6b1 : (Bu != 0) = true:=bne_iff_ne.mpr c6
    exact absurd ((Option.some.inj H).trans HTr.out) (by decide)
  ·replace c5:=Bool.eq_false_iff.mpr c5
   subst c5
   have H1 : (some false) = some r:=by rw [if_neg (show ¬ (false = true) by decide)] at H;exact H
   clear H
   have H:=H1
   clear H1
   exact absurd ((Option.some.inj H).trans HTr.out) (by decide)
 ·replace c3:=Bool.eq_false_iff.mpr c3
  subst c3
  have H1 : (some false) = some r:=by rw [if_neg (show ¬ (false = true) by decide)] at H;exact H
  clear H
  have H:=H1
  clear H1
  exact absurd ((Option.some.inj H).trans HTr.out) (by decide)
theorem bI.calls (k : Nat)  (r : Bool) (w : World) (h : bI.f k  = some r) :   Calls Tryz.prog 26 #[] w fun e w'=>e = .returned (.bool r) ∧ Below w.heap.size w w':=by
 cases r with
 | true=>exact bI.kI k true w h rfl
 | false=>
  exfalso
  have a : bI.f 60 = some true:=by decide +kernel
  have b:=iA (g:=fun k=>bI.f k) (fun k=>bI.mono k) (Nat.le_max_left k 60) h
  have c:=iA (g:=fun k=>bI.f k) (fun k=>bI.mono k) (Nat.le_max_right k 60) a
  exact Bool.noConfusion (Option.some.inj (b.symm.trans c))
end Go.Proofs.YtpncpefppifgdaaGreatDoor.GUt
