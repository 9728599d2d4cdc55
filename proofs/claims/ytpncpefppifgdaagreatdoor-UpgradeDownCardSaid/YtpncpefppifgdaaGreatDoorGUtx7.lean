/- Written by this session's own program (wip/gen.py) out of the translation: plain Lean functions of the Go functions, and proofs that the calls come to their answers. No conditions beside those in the statements. -/
import Derived.Test.YtpncpefppifgdaaGreatDoorCp
import Derived.Test.YtpncpefppifgdaaGreatDoorGUtx0
import Derived.Test.YtpncpefppifgdaaGreatDoorGUtx6
import Derived.Test.YtpncpefppifgdaaGreatDoorGUtEnc2
namespace Go.Proofs.YtpncpefppifgdaaGreatDoor.GUt
open Go.RowKit Go.Proofs.YtpncpefppifgdaaGreatDoorW.PrintWords Go.Proofs.YtpncpefppifgdaaGreatDoorW.PrintLast Go.Proofs.YtpncpefppifgdaaGreatDoorW.PrintMore
attribute [local go_sem] fH fI gF gG eZ fq fJ fK
set_option linter.unusedVariables false
set_option linter.unusedSimpArgs false
def bV.f (k : Nat)  : Option (Bool):=(dM.f k 1 ([] : List (S71))).bind fun Bz=>((bF.f k).bind fun BD=>(if BD = true then (if Bz.2 = 0 then (some (Bz.1.toList == ([0,0,0,0,0,0,0,1,0,0] : List UInt8))) else (some false)) else (some false)))
theorem bV.mono : ∀ k,LeO (bV.f k ) (bV.f (k + 1) ):=by
 intro  k
 unfold bV.f
 repeat' first
   | (with_reducible exact bF.mono _)
   | (with_reducible exact dM.mono _ _ _)
   | (with_reducible exact LeO.refl _)
   | (with_reducible exact LeO.none _)
   | (with_reducible refine LeO.ite ?_ ?_)
   | (with_reducible refine LeO.bind ?_ (fun _=>?_))
   | exact bF.mono _
   | exact dM.mono _ _ _
   | exact LeO.none _
   | refine LeO.ite ?_ ?_
   | refine LeO.bind ?_ (fun _=>?_)
set_option maxHeartbeats 8000000 in
set_option maxRecDepth 100000 in
theorem bV.kH (k : Nat)  (r : Bool) (w : World) (h : bV.f k  = some r) (hT : r = true) :
  Calls Tryz.prog 27 #[] w fun e w'=>e = .returned (.bool r) ∧ Below w.heap.size w w':=by
 have HTr:=Aside0.mk hT
 clear hT
 have BK:=Tryz.underlying29
 have HB:=Aside0.mk (Below.refl w.heap.size w)
 have H : ((dM.f k 1 ([] : List (S71))).bind fun Bz=>((bF.f k).bind fun BD=>(if BD = true then (if Bz.2 = 0 then (some (Bz.1.toList == ([0,0,0,0,0,0,0,1,0,0] : List UInt8))) else (some false)) else (some false)))) = some r:=h
 clear h
 replace H:=Option.bind_eq_some_iff.mp H
 obtain ⟨⟨t124,Bw⟩,BI,H⟩:=H
 replace H : ((bF.f k).bind fun BD=>(if BD = true then (if Bw = 0 then (some (t124.toList == ([0,0,0,0,0,0,0,1,0,0] : List UInt8))) else (some false)) else (some false))) = some r:=H
 have A1:=Aside0.mk BI
 clear BI
 replace H:=Option.bind_eq_some_iff.mp H
 obtain ⟨BD,BJ,H⟩:=H
 replace H : (if BD = true then (if Bw = 0 then (some (t124.toList == ([0,0,0,0,0,0,0,1,0,0] : List UInt8))) else (some false)) else (some false)) = some r:=H
 have A2:=Aside0.mk BJ
 clear BJ
 by_cases c3 : BD = true
 ·subst c3
  have H1 : (if Bw = 0 then (some (t124.toList == ([0,0,0,0,0,0,0,1,0,0] : List UInt8))) else (some false)) = some r:=by rw [if_pos rfl] at H;exact H
  clear H
  have H:=H1
  clear H1
  by_cases c4 : Bw = 0
  ·rw [if_pos c4] at H
   have c4b0 : (Bw == 0) = true:=beq_iff_eq.mpr c4
   have c4b1 : (Bw != 0) = false:=bne_eq_false_iff_eq.mpr c4
   clear c4
   obtain rfl:=Option.some.inj H
   go_enter Tryz.func27,Tryz.ntmps27
   go_wp2_with (first|((with_reducible refine bG (f:=51) rfl ?_);refine dJ (some 5) rfl rfl Tryz.func51 (by kernel_rfl) rfl #[.agg #[.int .u64 1,.slice none 0 0]] rfl (by (try simp only [List.map_toArray,List.map_cons,List.map_nil]);first|done|rfl|(simp only [List.length_drop,List.length_take];rfl)|(simp (disch:=first|omega|(simp at *;omega)) only [dK,bW,eG];rfl)) ?_;(refine (dM.calls k 1 _ _ ([] : List (S71)) t124 Bw _ ?BF ?BG A1.out).mono ?_);(case BF=>exact Kd.sM _ _);(case BG=>exact Nat.le_refl _);rintro e w5 ⟨rfl,hb⟩;refine ⟨_,rfl,?_⟩;have BH:=Aside0.mk (aN hb_ hb);clear HB;have HB:=BH;clear BH;(try clear hb);(try clear hb2);(try clear hk);(try clear hi))|((with_reducible refine bG (f:=26) rfl ?_);refine dJ (some 8) rfl rfl Tryz.func26 (by kernel_rfl) rfl #[] rfl (by (try simp only [List.map_toArray,List.map_cons,List.map_nil]);first|done|rfl|(simp only [List.length_drop,List.length_take];rfl)|(simp (disch:=first|omega|(simp at *;omega)) only [dK,bW,eG];rfl)) ?_;(with_reducible refine (bF.calls k  true _ A2.out).mono ?_);rintro e w6 ⟨rfl,hb⟩;refine ⟨_,rfl,?_⟩;have BH:=Aside0.mk (aN hb_ hb);clear HB;have HB:=BH;clear BH;(try clear hb);(try clear hb2);(try clear hk);(try clear hi)))
   go_ret
   exact ⟨by first|rfl|(simp [bg,bA] <;> rfl)|(simp [*,bg,bA] <;> rfl),hb_⟩
  ·rw [if_neg c4] at H
   have c4b0 : (Bw == 0) = false:=beq_eq_false_iff_ne.mpr c4
   have c4b1 : (Bw != 0) = true:=bne_iff_ne.mpr c4
   exact absurd ((Option.some.inj H).trans HTr.out) (by decide)
 ·replace c3:=Bool.eq_false_iff.mpr c3
  subst c3
  have H1 : (some false) = some r:=by rw [if_neg (show ¬ (false = true) by decide)] at H;exact H
  clear H
  have H:=H1
  clear H1
  exact absurd ((Option.some.inj H).trans HTr.out) (by decide)
theorem bV.calls (k : Nat)  (r : Bool) (w : World) (h : bV.f k  = some r) :   Calls Tryz.prog 27 #[] w fun e w'=>e = .returned (.bool r) ∧ Below w.heap.size w w':=by
 cases r with
 | true=>exact bV.kH k true w h rfl
 | false=>
  exfalso
  have a : bV.f 60 = some true:=by decide +kernel
  have b:=gX (g:=fun k=>bV.f k) (fun k=>bV.mono k) (Nat.le_max_left k 60) h
  have c:=gX (g:=fun k=>bV.f k) (fun k=>bV.mono k) (Nat.le_max_right k 60) a
  exact Bool.noConfusion (Option.some.inj (b.symm.trans c))
end Go.Proofs.YtpncpefppifgdaaGreatDoor.GUt
