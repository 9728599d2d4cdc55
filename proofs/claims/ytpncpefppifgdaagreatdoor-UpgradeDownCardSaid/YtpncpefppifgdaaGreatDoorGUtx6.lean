/- Written by this session's own program (wip/gen.py) out of the translation: plain Lean functions of the Go functions, and proofs that the calls come to their answers. No conditions beside those in the statements. -/
import Derived.Test.YtpncpefppifgdaaGreatDoorCp
import Derived.Test.YtpncpefppifgdaaGreatDoorGUtx0
import Derived.Test.YtpncpefppifgdaaGreatDoorGUtx3
import Derived.Test.YtpncpefppifgdaaGreatDoorGUtx5
import Derived.Test.YtpncpefppifgdaaGreatDoorGUtEnc1
namespace Go.Proofs.YtpncpefppifgdaaGreatDoor.GUt
open Go.RowKit Go.Proofs.YtpncpefppifgdaaGreatDoorW.PrintWords Go.Proofs.YtpncpefppifgdaaGreatDoorW.PrintLast Go.Proofs.YtpncpefppifgdaaGreatDoorW.PrintMore
attribute [local go_sem] fH fI gF gG eZ fq fJ fK
set_option linter.unusedVariables false
set_option linter.unusedSimpArgs false
def bF.f (k : Nat)  : Option (Bool):=(dL.f k 1 ([] : List (S67))).bind fun BD=>((dZ.f k).bind fun BF=>(if BF = true then ((bU.f k).bind fun Bw=>(if Bw = true then (if BD.2 = 0 then (some (BD.1.toList == ([0,0,0,1,0,0] : List UInt8))) else (some false)) else (some false))) else (some false)))
theorem bF.mono : ∀ k,LeO (bF.f k ) (bF.f (k + 1) ):=by
 intro  k
 unfold bF.f
 repeat' first
   | (with_reducible exact dZ.mono _)
   | (with_reducible exact bU.mono _)
   | (with_reducible exact dL.mono _ _ _)
   | (with_reducible exact LeO.refl _)
   | (with_reducible exact LeO.none _)
   | (with_reducible refine LeO.ite ?_ ?_)
   | (with_reducible refine LeO.bind ?_ (fun _=>?_))
   | exact dZ.mono _
   | exact bU.mono _
   | exact dL.mono _ _ _
   | exact LeO.none _
   | refine LeO.ite ?_ ?_
   | refine LeO.bind ?_ (fun _=>?_)
set_option maxHeartbeats 8000000 in
set_option maxRecDepth 100000 in
theorem bF.kH (k : Nat)  (r : Bool) (w : World) (h : bF.f k  = some r) (hT : r = true) :
  Calls Tryz.prog 26 #[] w fun e w'=>e = .returned (.bool r) ∧ Below w.heap.size w w':=by
 have HTr:=Aside0.mk hT
 clear hT
 have BO:=Tryz.underlying25
 have HB:=Aside0.mk (Below.refl w.heap.size w)
 have H : ((dL.f k 1 ([] : List (S67))).bind fun BD=>((dZ.f k).bind fun BF=>(if BF = true then ((bU.f k).bind fun Bw=>(if Bw = true then (if BD.2 = 0 then (some (BD.1.toList == ([0,0,0,1,0,0] : List UInt8))) else (some false)) else (some false))) else (some false)))) = some r:=h
 clear h
 replace H:=Option.bind_eq_some_iff.mp H
 obtain ⟨⟨BG,Bz⟩,BK,H⟩:=H
 replace H : ((dZ.f k).bind fun BF=>(if BF = true then ((bU.f k).bind fun Bw=>(if Bw = true then (if Bz = 0 then (some (BG.toList == ([0,0,0,1,0,0] : List UInt8))) else (some false)) else (some false))) else (some false))) = some r:=H
 have A1:=Aside0.mk BK
 clear BK
 replace H:=Option.bind_eq_some_iff.mp H
 obtain ⟨BF,BL,H⟩:=H
 replace H : (if BF = true then ((bU.f k).bind fun Bw=>(if Bw = true then (if Bz = 0 then (some (BG.toList == ([0,0,0,1,0,0] : List UInt8))) else (some false)) else (some false))) else (some false)) = some r:=H
 have A2:=Aside0.mk BL
 clear BL
 by_cases c3 : BF = true
 ·subst c3
  have H1 : ((bU.f k).bind fun Bw=>(if Bw = true then (if Bz = 0 then (some (BG.toList == ([0,0,0,1,0,0] : List UInt8))) else (some false)) else (some false))) = some r:=by rw [if_pos rfl] at H;exact H
  clear H
  have H:=H1
  clear H1
  replace H:=Option.bind_eq_some_iff.mp H
  obtain ⟨Bw,BN,H⟩:=H
  replace H : (if Bw = true then (if Bz = 0 then (some (BG.toList == ([0,0,0,1,0,0] : List UInt8))) else (some false)) else (some false)) = some r:=H
  have A4:=Aside0.mk BN
  clear BN
  by_cases c5 : Bw = true
  ·subst c5
   have H1 : (if Bz = 0 then (some (BG.toList == ([0,0,0,1,0,0] : List UInt8))) else (some false)) = some r:=by rw [if_pos rfl] at H;exact H
   clear H
   have H:=H1
   clear H1
   by_cases c6 : Bz = 0
   ·rw [if_pos c6] at H
    have c6b0 : (Bz == 0) = true:=beq_iff_eq.mpr c6
    have c6b1 : (Bz != 0) = false:=bne_eq_false_iff_eq.mpr c6
    clear c6
    obtain rfl:=Option.some.inj H
    go_enter Tryz.func26,Tryz.ntmps26
    go_wp2_with (first|((with_reducible refine bG (f:=48) rfl ?_);refine dJ (some 5) rfl rfl Tryz.func48 (by kernel_rfl) rfl #[.agg #[.int .u32 1,.slice none 0 0]] rfl (by (try simp only [List.map_toArray,List.map_cons,List.map_nil]);first|done|rfl|(simp only [List.length_drop,List.length_take];rfl)|(simp (disch:=first|omega|(simp at *;omega)) only [dK,bW,eG];rfl)) ?_;(refine (dL.calls k 1 _ _ ([] : List (S67)) BG Bz _ ?BI ?BJ A1.out).mono ?_);(case BI=>exact Kd.sM _ _);(case BJ=>exact Nat.le_refl _);rintro e w7 ⟨rfl,hb⟩;refine ⟨_,rfl,?_⟩;have BH:=Aside0.mk (aN hb_ hb);clear HB;have HB:=BH;clear BH;(try clear hb);(try clear hb2);(try clear hk);(try clear hi))|((with_reducible refine bG (f:=49) rfl ?_);refine dJ (some 8) rfl rfl Tryz.func49 (by kernel_rfl) rfl #[] rfl (by (try simp only [List.map_toArray,List.map_cons,List.map_nil]);first|done|rfl|(simp only [List.length_drop,List.length_take];rfl)|(simp (disch:=first|omega|(simp at *;omega)) only [dK,bW,eG];rfl)) ?_;(with_reducible refine (dZ.calls k  true _ A2.out).mono ?_);rintro e w8 ⟨rfl,hb⟩;refine ⟨_,rfl,?_⟩;have BH:=Aside0.mk (aN hb_ hb);clear HB;have HB:=BH;clear BH;(try clear hb);(try clear hb2);(try clear hk);(try clear hi))|(go_at_call 50;(with_reducible refine (bU.calls k  true _ A4.out).mono ?_);rintro e w9 ⟨rfl,hb⟩;have BH:=Aside0.mk (aN hb_ hb);clear HB;have HB:=BH;clear BH;(try clear hb);(try clear hb2);(try clear hk);(try clear hi)))
    go_ret
    exact ⟨by first|rfl|(simp [bg,bA] <;> rfl)|(simp [*,bg,bA] <;> rfl),hb_⟩
   ·rw [if_neg c6] at H
    have c6b0 : (Bz == 0) = false:=beq_eq_false_iff_ne.mpr c6
    have c6b1 : (Bz != 0) = true:=bne_iff_ne.mpr c6
    exact absurd ((Option.some.inj H).trans HTr.out) (by decide)
  ·replace c5:=Bool.eq_false_iff.mpr c5
   subst c5
   have H1 : (some false) = some r:=by rw [if_neg (show ¬ (false = true) by decide)] at H;exact H
   clear H
   have H:=H1
   clear H1
   exact absurd ((Option.some.inj H).trans HTr.out) (by decide)
 ·replace c3:=Bool.eq_false_iff.mpr c3
  subst c3
  have H1 : (some false) = some r:=by rw [if_neg (show ¬ (false = true) by decide)] at H;exact H
  clear H
  have H:=H1
  clear H1
  exact absurd ((Option.some.inj H).trans HTr.out) (by decide)
theorem bF.calls (k : Nat)  (r : Bool) (w : World) (h : bF.f k  = some r) :   Calls Tryz.prog 26 #[] w fun e w'=>e = .returned (.bool r) ∧ Below w.heap.size w w':=by
 cases r with
 | true=>exact bF.kH k true w h rfl
 | false=>
  exfalso
  have a : bF.f 60 = some true:=by decide +kernel
  have b:=gX (g:=fun k=>bF.f k) (fun k=>bF.mono k) (Nat.le_max_left k 60) h
  have c:=gX (g:=fun k=>bF.f k) (fun k=>bF.mono k) (Nat.le_max_right k 60) a
  exact Bool.noConfusion (Option.some.inj (b.symm.trans c))
end Go.Proofs.YtpncpefppifgdaaGreatDoor.GUt
