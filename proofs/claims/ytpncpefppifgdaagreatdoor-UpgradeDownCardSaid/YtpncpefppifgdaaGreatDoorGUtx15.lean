/- Written by this session's own program (wip/gen.py) out of the translation: plain Lean functions of the Go functions, and proofs that the calls come to their answers. No conditions beside those in the statements. -/
import Derived.Test.YtpncpefppifgdaaGreatDoorCp
import Derived.Test.YtpncpefppifgdaaGreatDoorGUtx0
import Derived.Test.YtpncpefppifgdaaGreatDoorGUtx6
import Derived.Test.YtpncpefppifgdaaGreatDoorGUtx14
import Derived.Test.YtpncpefppifgdaaGreatDoorGUtEnc3
import Derived.Test.YtpncpefppifgdaaGreatDoorGW
namespace Go.Proofs.YtpncpefppifgdaaGreatDoor.GUt
open Go.RowKit Go.Proofs.YtpncpefppifgdaaGreatDoorW.PrintWords Go.Proofs.YtpncpefppifgdaaGreatDoorW.PrintLast Go.Proofs.YtpncpefppifgdaaGreatDoorW.PrintMore
attribute [local go_sem] fH fI gF gG eZ fq fJ fK
set_option linter.unusedVariables false
set_option linter.unusedSimpArgs false
def bQ.f (k : Nat)  : Option (Bool):=(eT.f k 1 ([] : List (S79))).bind fun BD=>((bZ.f k).bind fun BF=>(if BF = true then ((bF.f k).bind fun Bw=>(if Bw = true then (if BD.2 = 0 then (some (BD.1.toList == ([0,0,0,0,0,0,0,1,0,0] : List UInt8))) else (some false)) else (some false))) else (some false)))
theorem bQ.mono : ∀ k,LeO (bQ.f k ) (bQ.f (k + 1) ):=by
 intro  k
 unfold bQ.f
 repeat' first
   | (with_reducible exact bZ.mono _)
   | (with_reducible exact bF.mono _)
   | (with_reducible exact eT.mono _ _ _)
   | (with_reducible exact LeO.refl _)
   | (with_reducible exact LeO.none _)
   | (with_reducible refine LeO.ite ?_ ?_)
   | (with_reducible refine LeO.bind ?_ (fun _=>?_))
   | exact bZ.mono _
   | exact bF.mono _
   | exact eT.mono _ _ _
   | exact LeO.none _
   | refine LeO.ite ?_ ?_
   | refine LeO.bind ?_ (fun _=>?_)
set_option maxHeartbeats 8000000 in
set_option maxRecDepth 100000 in
theorem bQ.kH (k : Nat)  (r : Bool) (w : World) (h : bQ.f k  = some r) (hG : GW.GW w) (hT : r = true) :
  Calls Tryz.prog 28 #[] w fun e w'=>e = .returned (.bool r) ∧ Below w.heap.size w w':=by
 have HTr:=Aside0.mk hT
 clear hT
 have BN:=Tryz.underlying51
 have HB:=Aside0.mk (Below.refl w.heap.size w)
 have H : ((eT.f k 1 ([] : List (S79))).bind fun BD=>((bZ.f k).bind fun BF=>(if BF = true then ((bF.f k).bind fun Bw=>(if Bw = true then (if BD.2 = 0 then (some (BD.1.toList == ([0,0,0,0,0,0,0,1,0,0] : List UInt8))) else (some false)) else (some false))) else (some false)))) = some r:=h
 clear h
 replace H:=Option.bind_eq_some_iff.mp H
 obtain ⟨⟨t175,Bz⟩,BJ,H⟩:=H
 replace H : ((bZ.f k).bind fun BF=>(if BF = true then ((bF.f k).bind fun Bw=>(if Bw = true then (if Bz = 0 then (some (t175.toList == ([0,0,0,0,0,0,0,1,0,0] : List UInt8))) else (some false)) else (some false))) else (some false))) = some r:=H
 have A1:=Aside0.mk BJ
 clear BJ
 replace H:=Option.bind_eq_some_iff.mp H
 obtain ⟨BF,BK,H⟩:=H
 replace H : (if BF = true then ((bF.f k).bind fun Bw=>(if Bw = true then (if Bz = 0 then (some (t175.toList == ([0,0,0,0,0,0,0,1,0,0] : List UInt8))) else (some false)) else (some false))) else (some false)) = some r:=H
 have A2:=Aside0.mk BK
 clear BK
 by_cases c3 : BF = true
 ·subst c3
  have H1 : ((bF.f k).bind fun Bw=>(if Bw = true then (if Bz = 0 then (some (t175.toList == ([0,0,0,0,0,0,0,1,0,0] : List UInt8))) else (some false)) else (some false))) = some r:=by rw [if_pos rfl] at H;exact H
  clear H
  have H:=H1
  clear H1
  replace H:=Option.bind_eq_some_iff.mp H
  obtain ⟨Bw,BL,H⟩:=H
  replace H : (if Bw = true then (if Bz = 0 then (some (t175.toList == ([0,0,0,0,0,0,0,1,0,0] : List UInt8))) else (some false)) else (some false)) = some r:=H
  have A4:=Aside0.mk BL
  clear BL
  by_cases c5 : Bw = true
  ·subst c5
   have H1 : (if Bz = 0 then (some (t175.toList == ([0,0,0,0,0,0,0,1,0,0] : List UInt8))) else (some false)) = some r:=by rw [if_pos rfl] at H;exact H
   clear H
   have H:=H1
   clear H1
   by_cases c6 : Bz = 0
   ·rw [if_pos c6] at H
    have c6b0 : (Bz == 0) = true:=beq_iff_eq.mpr c6
    have c6b1 : (Bz != 0) = false:=bne_eq_false_iff_eq.mpr c6
    clear c6
    obtain rfl:=Option.some.inj H
    go_enter Tryz.func28,Tryz.ntmps28
    go_wp2_with (first|((with_reducible refine bG (f:=52) rfl ?_);refine dJ (some 5) rfl rfl Tryz.func52 (by kernel_rfl) rfl #[.agg #[.int .u64 1,.slice none 0 0]] rfl (by (try simp only [List.map_toArray,List.map_cons,List.map_nil]);first|done|rfl|(simp only [List.length_drop,List.length_take];rfl)|(simp (disch:=first|omega|(simp at *;omega)) only [dK,bW,eG];rfl)) ?_;(refine (eT.calls k 1 _ _ ([] : List (S79)) t175 Bz _ ?BH ?BI A1.out).mono ?_);(case BH=>exact Kd.sM _ _);(case BI=>exact Nat.le_refl _);rintro e w7 ⟨rfl,hb⟩;refine ⟨_,rfl,?_⟩;have BG:=Aside0.mk (aN hb_ hb);clear HB;have HB:=BG;clear BG;(try clear hb);(try clear hb2);(try clear hk);(try clear hi))|((with_reducible refine bG (f:=53) rfl ?_);refine dJ (some 8) rfl rfl Tryz.func53 (by kernel_rfl) rfl #[] rfl (by (try simp only [List.map_toArray,List.map_cons,List.map_nil]);first|done|rfl|(simp only [List.length_drop,List.length_take];rfl)|(simp (disch:=first|omega|(simp at *;omega)) only [dK,bW,eG];rfl)) ?_;(with_reducible refine (bZ.calls k  true _ A2.out (by first|assumption|exact GW.below hG (by first|exact HB.out|assumption|(repeat (first|(with_reducible first|exact HB.out|apply dG|apply bB|apply bL)|exact HB.out)))|exact GW.drawn hG (by first|assumption|(repeat (first|exact Drawn0.refl _|assumption|apply Drawn0.step))))).mono ?_);rintro e w8 ⟨rfl,hb⟩;refine ⟨_,rfl,?_⟩;have BG:=Aside0.mk (aN hb_ hb);clear HB;have HB:=BG;clear BG;(try clear hb);(try clear hb2);(try clear hk);(try clear hi))|(go_at_call 26;(with_reducible refine (bF.calls k  true _ A4.out).mono ?_);rintro e w9 ⟨rfl,hb⟩;have BG:=Aside0.mk (aN hb_ hb);clear HB;have HB:=BG;clear BG;(try clear hb);(try clear hb2);(try clear hk);(try clear hi)))
    go_ret
    exact ⟨by first|rfl|(simp [bg,bA] <;> rfl)|(simp [*,bg,bA] <;> rfl),hb_⟩
   ·rw [if_neg c6] at H
    have c6b0 : (Bz == 0) = false:=beq_eq_false_iff_ne.mpr c6
    have c6b1 : (Bz != 0) = true:=bne_iff_ne.mpr c6
    exact absurd ((Option.some.inj H).trans HTr.out) (by decide)
  ·replace c5:=Bool.eq_false_iff.mpr c5
   subst c5
   have H1 : (some false) = some r:=by rw [if_neg (show ¬ (false = true) by decide)] at H;exact H
   clear H
   have H:=H1
   clear H1
   exact absurd ((Option.some.inj H).trans HTr.out) (by decide)
 ·replace c3:=Bool.eq_false_iff.mpr c3
  subst c3
  have H1 : (some false) = some r:=by rw [if_neg (show ¬ (false = true) by decide)] at H;exact H
  clear H
  have H:=H1
  clear H1
  exact absurd ((Option.some.inj H).trans HTr.out) (by decide)
theorem bQ.calls (k : Nat)  (r : Bool) (w : World) (h : bQ.f k  = some r) (hG : GW.GW w) :   Calls Tryz.prog 28 #[] w fun e w'=>e = .returned (.bool r) ∧ Below w.heap.size w w':=by
 cases r with
 | true=>exact bQ.kH k true w h hG rfl
 | false=>
  exfalso
  have a : bQ.f 60 = some true:=by decide +kernel
  have b:=gX (g:=fun k=>bQ.f k) (fun k=>bQ.mono k) (Nat.le_max_left k 60) h
  have c:=gX (g:=fun k=>bQ.f k) (fun k=>bQ.mono k) (Nat.le_max_right k 60) a
  exact Bool.noConfusion (Option.some.inj (b.symm.trans c))
end Go.Proofs.YtpncpefppifgdaaGreatDoor.GUt
