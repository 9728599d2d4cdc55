/- Written by this session's own program (wip/gen.py) out of the translation: plain Lean functions of the Go functions, and proofs that the calls come to their answers. No conditions beside those in the statements. -/
import Derived.Test.YtpncpefppifgdaaGreatDoorCp
import Derived.Test.YtpncpefppifgdaaGreatDoorGUtx0
import Derived.Test.YtpncpefppifgdaaGreatDoorGUtx4
import Derived.Test.YtpncpefppifgdaaGreatDoorGUtEnc2
namespace Go.Proofs.YtpncpefppifgdaaGreatDoor.GUt
open Go.RowKit Go.Proofs.YtpncpefppifgdaaGreatDoorW.PrintWords Go.Proofs.YtpncpefppifgdaaGreatDoorW.PrintLast Go.Proofs.YtpncpefppifgdaaGreatDoorW.PrintMore
attribute [local go_sem] fZ gq gM gN fM fO gu gD
set_option linter.unusedVariables false
set_option linter.unusedSimpArgs false
def cO.f (k : Nat)  : Option (Bool):=(dR.f k 1 ([] : List (S71))).bind fun Bv=>((bI.f k).bind fun Bw=>(if Bw = true then (if Bv.2 = 0 then (some (Bv.1.toList == ([0,0,0,0,0,0,0,1,0,0] : List UInt8))) else (some false)) else (some false)))
theorem cO.mono : ∀ k,LeO (cO.f k ) (cO.f (k + 1) ):=by
 intro  k
 unfold cO.f
 repeat' first
   | (with_reducible exact bI.mono _)
   | (with_reducible exact dR.mono _ _ _)
   | (with_reducible exact LeO.refl _)
   | (with_reducible exact LeO.none _)
   | (with_reducible refine LeO.ite ?_ ?_)
   | (with_reducible refine LeO.bind ?_ (fun _=>?_))
   | exact bI.mono _
   | exact dR.mono _ _ _
   | exact LeO.none _
   | refine LeO.ite ?_ ?_
   | refine LeO.bind ?_ (fun _=>?_)
set_option maxHeartbeats 8000000 in
set_option maxRecDepth 100000 in
theorem cO.kI (k : Nat)  (r : Bool) (w : World) (h : cO.f k  = some r) (hT : r = true) :
  Calls Tryz.prog 27 #[] w fun e w'=>e = .returned (.bool r) ∧ Below w.heap.size w w':=by
 have HTr:=Aside0.mk hT
 clear hT
 have BJ:=Tryz.underlying29
 have HB:=Aside0.mk (Below.refl w.heap.size w)
 have H : ((dR.f k 1 ([] : List (S71))).bind fun Bv=>((bI.f k).bind fun Bw=>(if Bw = true then (if Bv.2 = 0 then (some (Bv.1.toList == ([0,0,0,0,0,0,0,1,0,0] : List UInt8))) else (some false)) else (some false)))) = some r:=h
 clear h
 replace H:=Option.bind_eq_some_iff.mp H
 obtain ⟨⟨Bz,Bu⟩,BH,H⟩:=H
 replace H : ((bI.f k).bind fun Bw=>(if Bw = true then (if Bu = 0 then (some (Bz.toList == ([0,0,0,0,0,0,0,1,0,0] : List UInt8))) else (some false)) else (some false))) = some r:=H
 have A1:=Aside0.mk BH
 clear BH
 replace H:=Option.bind_eq_some_iff.mp H
 obtain ⟨Bw,BI,H⟩:=H
 replace H : (if Bw = true then (if Bu = 0 then (some (Bz.toList == ([0,0,0,0,0,0,0,1,0,0] : List UInt8))) else (some false)) else (some false)) = some r:=H
 have A2:=Aside0.mk BI
 clear BI
 by_cases c3 : Bw = true
 ·subst c3
  have H1 : (if Bu = 0 then (some (Bz.toList == ([0,0,0,0,0,0,0,1,0,0] : List UInt8))) else (some false)) = some r:=by rw [if_pos rfl] at H;exact H
  clear H
  have H:=H1
  clear H1
  by_cases c4 : Bu = 0
  ·rw [if_pos c4] at H
   have c4b0 : (Bu == 0) = true:=beq_iff_eq.mpr c4
   have c4b1 : (Bu != 0) = false:=bne_eq_false_iff_eq.mpr c4
   clear c4
   obtain rfl:=Option.some.inj H
   go_enter Tryz.func27,Tryz.ntmps27
   go_wp2_with (first|((with_reducible refine bO (f:=51) rfl ?_);refine dZ (some 5) rfl rfl Tryz.func51 (by kernel_rfl) rfl #[.agg #[.int .u64 1,.slice none 0 0]] rfl (by (try simp only [List.map_toArray,List.map_cons,List.map_nil]);first|done|rfl|(simp only [List.length_drop,List.length_take];rfl)|(simp (disch:=first|omega|(simp at *;omega)) only [eu,dD,fA];rfl)) ?_;(refine (dR.calls k 1 _ _ ([] : List (S71)) Bz Bu _ ?BD ?BF A1.out).mono ?_);(case BD=>exact Kd.sV _ _);(case BF=>exact Nat.le_refl _);rintro e w5 ⟨rfl,hb⟩;refine ⟨_,rfl,?_⟩;have BG:=Aside0.mk (aN hb_ hb);clear HB;have HB:=BG;clear BG;(try clear hb);(try clear hb2);(try clear hk);(try clear hi))|((with_reducible refine bO (f:=26) rfl ?_);refine dZ (some 8) rfl rfl Tryz.func26 (by kernel_rfl) rfl #[] rfl (by (try simp only [List.map_toArray,List.map_cons,List.map_nil]);first|done|rfl|(simp only [List.length_drop,List.length_take];rfl)|(simp (disch:=first|omega|(simp at *;omega)) only [eu,dD,fA];rfl)) ?_;(with_reducible refine (bI.calls k  true _ A2.out).mono ?_);rintro e w6 ⟨rfl,hb⟩;refine ⟨_,rfl,?_⟩;have BG:=Aside0.mk (aN hb_ hb);clear HB;have HB:=BG;clear BG;(try clear hb);(try clear hb2);(try clear hk);(try clear hi)))
   go_ret
   exact ⟨by first|rfl|(simp [bB,bC] <;> rfl)|(simp [*,bB,bC] <;> rfl),hb_⟩
  ·rw [if_neg c4] at H
   have c4b0 : (Bu == 0) = false:=beq_eq_false_iff_ne.mpr c4
   have c4b1 : (Bu != 0) = true:=bne_iff_ne.mpr c4
   exact absurd ((Option.some.inj H).trans HTr.out) (by decide)
 ·replace c3:=Bool.eq_false_iff.mpr c3
  subst c3
  have H1 : (some false) = some r:=by rw [if_neg (show ¬ (false = true) by decide)] at H;exact H
  clear H
  have H:=H1
  clear H1
  exact absurd ((Option.some.inj H).trans HTr.out) (by decide)
theorem cO.calls (k : Nat)  (r : Bool) (w : World) (h : cO.f k  = some r) :   Calls Tryz.prog 27 #[] w fun e w'=>e = .returned (.bool r) ∧ Below w.heap.size w w':=by
 cases r with
 | true=>exact cO.kI k true w h rfl
 | false=>
  exfalso
  have a : cO.f 60 = some true:=by decide +kernel
  have b:=iA (g:=fun k=>cO.f k) (fun k=>cO.mono k) (Nat.le_max_left k 60) h
  have c:=iA (g:=fun k=>cO.f k) (fun k=>cO.mono k) (Nat.le_max_right k 60) a
  exact Bool.noConfusion (Option.some.inj (b.symm.trans c))
end Go.Proofs.YtpncpefppifgdaaGreatDoor.GUt
