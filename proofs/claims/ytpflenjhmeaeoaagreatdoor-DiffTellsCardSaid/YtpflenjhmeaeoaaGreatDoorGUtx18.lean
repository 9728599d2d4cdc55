/- Written by this session's own program (wip/gen.py) out of the translation: plain Lean functions of the Go functions, and proofs that the calls come to their answers. No conditions beside those in the statements. -/
import Derived.Test.YtpflenjhmeaeoaaGreatDoorCp
import Derived.Test.YtpflenjhmeaeoaaGreatDoorGUtx0
import Derived.Test.YtpflenjhmeaeoaaGreatDoorGUtx11
import Derived.Test.YtpflenjhmeaeoaaGreatDoorGUtx17
import Derived.Test.YtpflenjhmeaeoaaGreatDoorGUtEnc1
namespace Go.Proofs.YtpflenjhmeaeoaaGreatDoor.GUt
open Go.RowKit Go.Proofs.YtpflenjhmeaeoaaGreatDoorW.PrintWords Go.Proofs.YtpflenjhmeaeoaaGreatDoorW.PrintLast Go.Proofs.YtpflenjhmeaeoaaGreatDoorW.PrintMore
attribute [local go_sem] fJ fK gH gI eO eP fM fO
set_option linter.unusedVariables false
set_option linter.unusedSimpArgs false
def dn.f (k : Nat)  : Option (Bool):=(dV.f k 1 ([] : List (S131))).bind fun Bg=>((eF.f k).bind fun Bh=>(if Bh = true then ((cK.f k).bind fun AZ=>(if AZ = true then (if Bg.2 = 0 then (some (Bg.1.toList == ([0,0,0,1,0,0] : List UInt8))) else (some false)) else (some false))) else (some false)))
theorem dn.mono : ∀ k,LeO (dn.f k ) (dn.f (k + 1) ):=by
 intro  k
 unfold dn.f
 repeat' first
   | (with_reducible exact eF.mono _)
   | (with_reducible exact cK.mono _)
   | (with_reducible exact dV.mono _ _ _)
   | (with_reducible exact LeO.refl _)
   | (with_reducible exact LeO.none _)
   | (with_reducible refine LeO.ite ?_ ?_)
   | (with_reducible refine LeO.bind ?_ (fun _=>?_))
   | exact eF.mono _
   | exact cK.mono _
   | exact dV.mono _ _ _
   | exact LeO.none _
   | refine LeO.ite ?_ ?_
   | refine LeO.bind ?_ (fun _=>?_)
set_option maxHeartbeats 8000000 in
set_option maxRecDepth 100000 in
theorem dn.lS (k : Nat)  (r : Bool) (w : World) (h : dn.f k  = some r) (hT : r = true) :
  Calls Tryz.prog 25 #[] w fun e w'=>e = .returned (.bool r) ∧ Below w.heap.size w w':=by
 have HTr:=Aside0.mk hT
 clear hT
 have Bp:=Tryz.underlying109
 have HB:=Aside0.mk (Below.refl w.heap.size w)
 have H : ((dV.f k 1 ([] : List (S131))).bind fun Bg=>((eF.f k).bind fun Bh=>(if Bh = true then ((cK.f k).bind fun AZ=>(if AZ = true then (if Bg.2 = 0 then (some (Bg.1.toList == ([0,0,0,1,0,0] : List UInt8))) else (some false)) else (some false))) else (some false)))) = some r:=h
 clear h
 replace H:=Option.bind_eq_some_iff.mp H
 obtain ⟨⟨Bj,Bf⟩,Bq,H⟩:=H
 replace H : ((eF.f k).bind fun Bh=>(if Bh = true then ((cK.f k).bind fun AZ=>(if AZ = true then (if Bf = 0 then (some (Bj.toList == ([0,0,0,1,0,0] : List UInt8))) else (some false)) else (some false))) else (some false))) = some r:=H
 have A1:=Aside0.mk Bq
 clear Bq
 replace H:=Option.bind_eq_some_iff.mp H
 obtain ⟨Bh,Br,H⟩:=H
 replace H : (if Bh = true then ((cK.f k).bind fun AZ=>(if AZ = true then (if Bf = 0 then (some (Bj.toList == ([0,0,0,1,0,0] : List UInt8))) else (some false)) else (some false))) else (some false)) = some r:=H
 have A2:=Aside0.mk Br
 clear Br
 by_cases c3 : Bh = true
 ·subst c3
  have H1 : ((cK.f k).bind fun AZ=>(if AZ = true then (if Bf = 0 then (some (Bj.toList == ([0,0,0,1,0,0] : List UInt8))) else (some false)) else (some false))) = some r:=by rw [if_pos rfl] at H;exact H
  clear H
  have H:=H1
  clear H1
  replace H:=Option.bind_eq_some_iff.mp H
  obtain ⟨AZ,Bt,H⟩:=H
  replace H : (if AZ = true then (if Bf = 0 then (some (Bj.toList == ([0,0,0,1,0,0] : List UInt8))) else (some false)) else (some false)) = some r:=H
  have A4:=Aside0.mk Bt
  clear Bt
  by_cases c5 : AZ = true
  ·subst c5
   have H1 : (if Bf = 0 then (some (Bj.toList == ([0,0,0,1,0,0] : List UInt8))) else (some false)) = some r:=by rw [if_pos rfl] at H;exact H
   clear H
   have H:=H1
   clear H1
   by_cases c6 : Bf = 0
   ·rw [if_pos c6] at H
    have c6b0 : (Bf == 0) = true:=beq_iff_eq.mpr c6
    have c6b1 : (Bf != 0) = false:=bne_eq_false_iff_eq.mpr c6
    clear c6
    obtain rfl:=Option.some.inj H
    go_enter Tryz.func25,Tryz.ntmps25
    go_wp2_with (first|((with_reducible refine bF (f:=40) rfl ?_);refine dN (some 5) rfl rfl Tryz.func40 (by kernel_rfl) rfl #[.agg #[.int .u32 1,.slice none 0 0]] rfl (by (try simp only [List.map_toArray,List.map_cons,List.map_nil]);first|done|rfl|(simp only [List.length_drop,List.length_take];rfl)|(simp (disch:=first|omega|(simp at *;omega)) only [dO,dG,eH];rfl)) ?_;(refine (dV.calls k 1 _ _ ([] : List (S131)) Bj Bf _ ?Bn ?Bo A1.out).mono ?_);(case Bn=>exact Kd.uV _ _);(case Bo=>exact Nat.le_refl _);rintro e w7 ⟨rfl,hb⟩;refine ⟨_,rfl,?_⟩;have Bl:=Aside0.mk (aK hb_ hb);clear HB;have HB:=Bl;clear Bl;(try clear hb);(try clear hb2);(try clear hk);(try clear hi))|((with_reducible refine bF (f:=41) rfl ?_);refine dN (some 8) rfl rfl Tryz.func41 (by kernel_rfl) rfl #[] rfl (by (try simp only [List.map_toArray,List.map_cons,List.map_nil]);first|done|rfl|(simp only [List.length_drop,List.length_take];rfl)|(simp (disch:=first|omega|(simp at *;omega)) only [dO,dG,eH];rfl)) ?_;(with_reducible refine (eF.calls k  true _ A2.out).mono ?_);rintro e w8 ⟨rfl,hb⟩;refine ⟨_,rfl,?_⟩;have Bl:=Aside0.mk (aK hb_ hb);clear HB;have HB:=Bl;clear Bl;(try clear hb);(try clear hb2);(try clear hk);(try clear hi))|(go_at_call 38;(with_reducible refine (cK.calls k  true _ A4.out).mono ?_);rintro e w9 ⟨rfl,hb⟩;have Bl:=Aside0.mk (aK hb_ hb);clear HB;have HB:=Bl;clear Bl;(try clear hb);(try clear hb2);(try clear hk);(try clear hi)))
    go_ret
    exact ⟨by first|rfl|(simp [aY,aZ] <;> rfl)|(simp [*,aY,aZ] <;> rfl),hb_⟩
   ·rw [if_neg c6] at H
    have c6b0 : (Bf == 0) = false:=beq_eq_false_iff_ne.mpr c6
    have c6b1 : (Bf != 0) = true:=bne_iff_ne.mpr c6
    exact absurd ((Option.some.inj H).trans HTr.out) (by decide)
  ·replace c5:=Bool.eq_false_iff.mpr c5
   subst c5
   have H1 : (some false) = some r:=by rw [if_neg (show ¬ (false = true) by decide)] at H;exact H
   clear H
   have H:=H1
   clear H1
   exact absurd ((Option.some.inj H).trans HTr.out) (by decide)
 ·replace c3:=Bool.eq_false_iff.mpr c3
  subst c3
  have H1 : (some false) = some r:=by rw [if_neg (show ¬ (false = true) by decide)] at H;exact H
  clear H
  have H:=H1
  clear H1
  exact absurd ((Option.some.inj H).trans HTr.out) (by decide)
theorem dn.calls (k : Nat)  (r : Bool) (w : World) (h : dn.f k  = some r) :   Calls Tryz.prog 25 #[] w fun e w'=>e = .returned (.bool r) ∧ Below w.heap.size w w':=by
 cases r with
 | true=>exact dn.lS k true w h rfl
 | false=>
  exfalso
  have a : dn.f 60 = some true:=by decide +kernel
  have b:=iQ (g:=fun k=>dn.f k) (fun k=>dn.mono k) (Nat.le_max_left k 60) h
  have c:=iQ (g:=fun k=>dn.f k) (fun k=>dn.mono k) (Nat.le_max_right k 60) a
  exact Bool.noConfusion (Option.some.inj (b.symm.trans c))
end Go.Proofs.YtpflenjhmeaeoaaGreatDoor.GUt
