/- Written by this session's own program (wip/gen.py) out of the translation: plain Lean functions of the Go functions, and proofs that the calls come to their answers. No conditions beside those in the statements. -/
import Derived.Test.YtnkkbiabloodaaaDoorGVax0
import Derived.Test.YtnkkbiabloodaaaDoorGVax1
import Derived.Test.YtnkkbiabloodaaaDoorGVax3
import Derived.Test.YtnkkbiabloodaaaDoorGVax6
import Derived.Test.YtnkkbiabloodaaaDoorGVaBuild
import Derived.Test.YtnkkbiabloodaaaDoorGVaSame
import Derived.Test.YtnkkbiabloodaaaDoorGW
namespace Go.Proofs.YtnkkbiabloodaaaDoor.GVa
open Go.RowKit Go.Proofs.YtnkkbiabloodaaaDoorW.PrintWords Go.Proofs.YtnkkbiabloodaaaDoorW.PrintLast Go.Proofs.YtnkkbiabloodaaaDoorW.PrintMore
attribute [local go_sem] max2_int min2_int max_two min_two max_three min_three max_four min_four   -- for this text's walks alone
set_option linter.unusedVariables false
set_option linter.unusedSimpArgs false

/-! ### bosunlaw05_ValueAlike: function 5 -/
mutual
def bosunlaw05_ValueAlike.j0 : Nat → List (S75) → ByteArray → Int → Bool → Option (Bool)
 | 0,_,_,_,_=>none
 | k + 1,x0,x1,x2,x17=>if x17 = true then ((bosunlaw05_Awake.f k).bind fun t495=>(some t495)) else ((bosunlaw05_Build.f x0).bind fun bt496=>(if bt496.1 = 3 then (bosunlaw05_ValueAlike.j1 k x2 bt496.1 bt496.2.1 bt496.2.2.1 bt496.2.2.2.1 bt496.2.2.2.2.1 bt496.2.2.2.2.2.1 bt496.1 bt496.2.1 bt496.2.2.1 bt496.2.2.2.1 bt496.2.2.2.2.1 bt496.2.2.2.2.2.1) else (bosunlaw05_ValueAlike.j1 k x2 bt496.1 bt496.2.1 bt496.2.2.1 bt496.2.2.2.1 bt496.2.2.2.2.1 bt496.2.2.2.2.2.1 bt496.1 bt496.2.1 bt496.2.2.1 x1 bt496.2.2.2.2.1 bt496.2.2.2.2.2.1)))
def bosunlaw05_ValueAlike.j1 : Nat → Int → Int → Bool → Int → ByteArray → List (S29) → List (S48) → Int → Bool → Int → ByteArray → List (S29) → List (S48) → Option (Bool)
 | 0,_,_,_,_,_,_,_,_,_,_,_,_,_=>none
 | k + 1,x2,x517000,x517001,x517002,x517003,x517004,x517005,x519000,x519001,x519002,x519003,x519004,x519005=>if x519000 = 2 then (bosunlaw05_ValueAlike.j2 k x517000 x517001 x517002 x517003 x517004 x517005 x519000 x519001 x519002 x519003 x519004 x519005) else (bosunlaw05_ValueAlike.j2 k x517000 x517001 x517002 x517003 x517004 x517005 x519000 x519001 x2 x519003 x519004 x519005)
def bosunlaw05_ValueAlike.j2 : Nat → Int → Bool → Int → ByteArray → List (S29) → List (S48) → Int → Bool → Int → ByteArray → List (S29) → List (S48) → Option (Bool)
 | 0,_,_,_,_,_,_,_,_,_,_,_,_=>none
 | k + 1,x517000,x517001,x517002,x517003,x517004,x517005,x519000,x519001,x519002,x519003,x519004,x519005=>if x519000 = 1 then (bosunlaw05_ValueAlike.j3 k x517000 x517001 x517002 x517003 x517004 x517005 x519000 x519001 x519002 x519003 x519004 x519005) else (bosunlaw05_ValueAlike.j3 k x517000 x517001 x517002 x517003 x517004 x517005 x519000 (!x519001) x519002 x519003 x519004 x519005)
def bosunlaw05_ValueAlike.j3 : Nat → Int → Bool → Int → ByteArray → List (S29) → List (S48) → Int → Bool → Int → ByteArray → List (S29) → List (S48) → Option (Bool)
 | 0,_,_,_,_,_,_,_,_,_,_,_,_=>none
 | k + 1,x517000,x517001,x517002,x517003,x517004,x517005,x519000,x519001,x519002,x519003,x519004,x519005=>(bosunlaw05_Awake.f k).bind fun t519=>(if t519 = true then ((value_Value_Same.f k x517000 x517001 x517002 x517003 x517004 x517005 x519000 x519001 x519002 x519003 x519004 x519005).bind fun t520=>(if t520 = true then ((value_Value_Same.f k x519000 x519001 x519002 x519003 x519004 x519005 x517000 x517001 x517002 x517003 x517004 x517005).bind fun t521=>(if t521 = true then ((value_Value_Check.f k x517000 x517001 x517002 x517003 x517004 x517005).bind fun t522=>((value_Value_Check.f k x519000 x519001 x519002 x519003 x519004 x519005).bind fun t523=>(if t522 = t523 then ((value_Value_Depth.f k x517000 x517001 x517002 x517003 x517004 x517005).bind fun t524=>((value_Value_Depth.f k x519000 x519001 x519002 x519003 x519004 x519005).bind fun t525=>(some (t524 == t525)))) else (some false)))) else (some false))) else (some false))) else (some false))
end
def bosunlaw05_ValueAlike.f (k : Nat) (l0 : List (S75)) (a1 : ByteArray) (a2 : Int) : Option (Bool):=(bosunlaw05_Small.f k l0).bind fun t494=>(if t494 = true then (bosunlaw05_ValueAlike.j0 k l0 a1 a2 (decide ((a1.size : Int) > 5000))) else (bosunlaw05_ValueAlike.j0 k l0 a1 a2 true))
theorem bosunlaw05_ValueAlike.mono_l : ∀ k,(∀ y0 y1 y2 y3,LeO (bosunlaw05_ValueAlike.j0 k y0 y1 y2 y3) (bosunlaw05_ValueAlike.j0 (k + 1) y0 y1 y2 y3)) ∧ (∀ y0 y1 y2 y3 y4 y5 y6 y7 y8 y9 y10 y11 y12,LeO (bosunlaw05_ValueAlike.j1 k y0 y1 y2 y3 y4 y5 y6 y7 y8 y9 y10 y11 y12) (bosunlaw05_ValueAlike.j1 (k + 1) y0 y1 y2 y3 y4 y5 y6 y7 y8 y9 y10 y11 y12)) ∧ (∀ y0 y1 y2 y3 y4 y5 y6 y7 y8 y9 y10 y11,LeO (bosunlaw05_ValueAlike.j2 k y0 y1 y2 y3 y4 y5 y6 y7 y8 y9 y10 y11) (bosunlaw05_ValueAlike.j2 (k + 1) y0 y1 y2 y3 y4 y5 y6 y7 y8 y9 y10 y11)) ∧ (∀ y0 y1 y2 y3 y4 y5 y6 y7 y8 y9 y10 y11,LeO (bosunlaw05_ValueAlike.j3 k y0 y1 y2 y3 y4 y5 y6 y7 y8 y9 y10 y11) (bosunlaw05_ValueAlike.j3 (k + 1) y0 y1 y2 y3 y4 y5 y6 y7 y8 y9 y10 y11))
 | 0=>⟨fun _ _ _ _ r h=>by simp [bosunlaw05_ValueAlike.j0] at h,fun _ _ _ _ _ _ _ _ _ _ _ _ _ r h=>by simp [bosunlaw05_ValueAlike.j1] at h,fun _ _ _ _ _ _ _ _ _ _ _ _ r h=>by simp [bosunlaw05_ValueAlike.j2] at h,fun _ _ _ _ _ _ _ _ _ _ _ _ r h=>by simp [bosunlaw05_ValueAlike.j3] at h⟩
 | k + 1=>by
  obtain ⟨ih0,ih1,ih2,ih3⟩:=bosunlaw05_ValueAlike.mono_l k
  refine ⟨?_,?_,?_,?_⟩
  ·intro y0 y1 y2 y3
   unfold bosunlaw05_ValueAlike.j0
   repeat' first
   | (with_reducible exact ih0 _ _ _ _)
   | (with_reducible exact ih1 _ _ _ _ _ _ _ _ _ _ _ _ _)
   | (with_reducible exact ih2 _ _ _ _ _ _ _ _ _ _ _ _)
   | (with_reducible exact ih3 _ _ _ _ _ _ _ _ _ _ _ _)
   | (with_reducible exact bosunlaw05_Awake.mono _)
   | (with_reducible exact bosunlaw05_Small.mono _ _)
   | (with_reducible exact value_Value_Check.mono _ _ _ _ _ _ _)
   | (with_reducible exact value_Value_Depth.mono _ _ _ _ _ _ _)
   | (with_reducible exact value_Value_Same.mono _ _ _ _ _ _ _ _ _ _ _ _ _)
   | (with_reducible exact LeO.refl _)
   | (with_reducible exact LeO.none _)
   | (with_reducible refine LeO.ite ?_ ?_)
   | (with_reducible refine LeO.bind ?_ (fun _=>?_))
   | exact ih0 _ _ _ _
   | exact ih1 _ _ _ _ _ _ _ _ _ _ _ _ _
   | exact ih2 _ _ _ _ _ _ _ _ _ _ _ _
   | exact ih3 _ _ _ _ _ _ _ _ _ _ _ _
   | exact bosunlaw05_Awake.mono _
   | exact bosunlaw05_Small.mono _ _
   | exact value_Value_Check.mono _ _ _ _ _ _ _
   | exact value_Value_Depth.mono _ _ _ _ _ _ _
   | exact value_Value_Same.mono _ _ _ _ _ _ _ _ _ _ _ _ _
   | exact LeO.none _
   | refine LeO.ite ?_ ?_
   | refine LeO.bind ?_ (fun _=>?_)
  ·intro y0 y1 y2 y3 y4 y5 y6 y7 y8 y9 y10 y11 y12
   unfold bosunlaw05_ValueAlike.j1
   repeat' first
   | (with_reducible exact ih0 _ _ _ _)
   | (with_reducible exact ih1 _ _ _ _ _ _ _ _ _ _ _ _ _)
   | (with_reducible exact ih2 _ _ _ _ _ _ _ _ _ _ _ _)
   | (with_reducible exact ih3 _ _ _ _ _ _ _ _ _ _ _ _)
   | (with_reducible exact bosunlaw05_Awake.mono _)
   | (with_reducible exact bosunlaw05_Small.mono _ _)
   | (with_reducible exact value_Value_Check.mono _ _ _ _ _ _ _)
   | (with_reducible exact value_Value_Depth.mono _ _ _ _ _ _ _)
   | (with_reducible exact value_Value_Same.mono _ _ _ _ _ _ _ _ _ _ _ _ _)
   | (with_reducible exact LeO.refl _)
   | (with_reducible exact LeO.none _)
   | (with_reducible refine LeO.ite ?_ ?_)
   | (with_reducible refine LeO.bind ?_ (fun _=>?_))
   | exact ih0 _ _ _ _
   | exact ih1 _ _ _ _ _ _ _ _ _ _ _ _ _
   | exact ih2 _ _ _ _ _ _ _ _ _ _ _ _
   | exact ih3 _ _ _ _ _ _ _ _ _ _ _ _
   | exact bosunlaw05_Awake.mono _
   | exact bosunlaw05_Small.mono _ _
   | exact value_Value_Check.mono _ _ _ _ _ _ _
   | exact value_Value_Depth.mono _ _ _ _ _ _ _
   | exact value_Value_Same.mono _ _ _ _ _ _ _ _ _ _ _ _ _
   | exact LeO.none _
   | refine LeO.ite ?_ ?_
   | refine LeO.bind ?_ (fun _=>?_)
  ·intro y0 y1 y2 y3 y4 y5 y6 y7 y8 y9 y10 y11
   unfold bosunlaw05_ValueAlike.j2
   repeat' first
   | (with_reducible exact ih0 _ _ _ _)
   | (with_reducible exact ih1 _ _ _ _ _ _ _ _ _ _ _ _ _)
   | (with_reducible exact ih2 _ _ _ _ _ _ _ _ _ _ _ _)
   | (with_reducible exact ih3 _ _ _ _ _ _ _ _ _ _ _ _)
   | (with_reducible exact bosunlaw05_Awake.mono _)
   | (with_reducible exact bosunlaw05_Small.mono _ _)
   | (with_reducible exact value_Value_Check.mono _ _ _ _ _ _ _)
   | (with_reducible exact value_Value_Depth.mono _ _ _ _ _ _ _)
   | (with_reducible exact value_Value_Same.mono _ _ _ _ _ _ _ _ _ _ _ _ _)
   | (with_reducible exact LeO.refl _)
   | (with_reducible exact LeO.none _)
   | (with_reducible refine LeO.ite ?_ ?_)
   | (with_reducible refine LeO.bind ?_ (fun _=>?_))
   | exact ih0 _ _ _ _
   | exact ih1 _ _ _ _ _ _ _ _ _ _ _ _ _
   | exact ih2 _ _ _ _ _ _ _ _ _ _ _ _
   | exact ih3 _ _ _ _ _ _ _ _ _ _ _ _
   | exact bosunlaw05_Awake.mono _
   | exact bosunlaw05_Small.mono _ _
   | exact value_Value_Check.mono _ _ _ _ _ _ _
   | exact value_Value_Depth.mono _ _ _ _ _ _ _
   | exact value_Value_Same.mono _ _ _ _ _ _ _ _ _ _ _ _ _
   | exact LeO.none _
   | refine LeO.ite ?_ ?_
   | refine LeO.bind ?_ (fun _=>?_)
  ·intro y0 y1 y2 y3 y4 y5 y6 y7 y8 y9 y10 y11
   unfold bosunlaw05_ValueAlike.j3
   repeat' first
   | (with_reducible exact ih0 _ _ _ _)
   | (with_reducible exact ih1 _ _ _ _ _ _ _ _ _ _ _ _ _)
   | (with_reducible exact ih2 _ _ _ _ _ _ _ _ _ _ _ _)
   | (with_reducible exact ih3 _ _ _ _ _ _ _ _ _ _ _ _)
   | (with_reducible exact bosunlaw05_Awake.mono _)
   | (with_reducible exact bosunlaw05_Small.mono _ _)
   | (with_reducible exact value_Value_Check.mono _ _ _ _ _ _ _)
   | (with_reducible exact value_Value_Depth.mono _ _ _ _ _ _ _)
   | (with_reducible exact value_Value_Same.mono _ _ _ _ _ _ _ _ _ _ _ _ _)
   | (with_reducible exact LeO.refl _)
   | (with_reducible exact LeO.none _)
   | (with_reducible refine LeO.ite ?_ ?_)
   | (with_reducible refine LeO.bind ?_ (fun _=>?_))
   | exact ih0 _ _ _ _
   | exact ih1 _ _ _ _ _ _ _ _ _ _ _ _ _
   | exact ih2 _ _ _ _ _ _ _ _ _ _ _ _
   | exact ih3 _ _ _ _ _ _ _ _ _ _ _ _
   | exact bosunlaw05_Awake.mono _
   | exact bosunlaw05_Small.mono _ _
   | exact value_Value_Check.mono _ _ _ _ _ _ _
   | exact value_Value_Depth.mono _ _ _ _ _ _ _
   | exact value_Value_Same.mono _ _ _ _ _ _ _ _ _ _ _ _ _
   | exact LeO.none _
   | refine LeO.ite ?_ ?_
   | refine LeO.bind ?_ (fun _=>?_)
theorem bosunlaw05_ValueAlike.mono : ∀ a0 a1 a2 k,LeO (bosunlaw05_ValueAlike.f k a0 a1 a2) (bosunlaw05_ValueAlike.f (k + 1) a0 a1 a2):=by
 intro a0 a1 a2 k
 obtain ⟨ih0,ih1,ih2,ih3⟩:=bosunlaw05_ValueAlike.mono_l k
 unfold bosunlaw05_ValueAlike.f
 repeat' first
   | (with_reducible exact ih0 _ _ _ _)
   | (with_reducible exact ih1 _ _ _ _ _ _ _ _ _ _ _ _ _)
   | (with_reducible exact ih2 _ _ _ _ _ _ _ _ _ _ _ _)
   | (with_reducible exact ih3 _ _ _ _ _ _ _ _ _ _ _ _)
   | (with_reducible exact bosunlaw05_Awake.mono _)
   | (with_reducible exact bosunlaw05_Small.mono _ _)
   | (with_reducible exact value_Value_Check.mono _ _ _ _ _ _ _)
   | (with_reducible exact value_Value_Depth.mono _ _ _ _ _ _ _)
   | (with_reducible exact value_Value_Same.mono _ _ _ _ _ _ _ _ _ _ _ _ _)
   | (with_reducible exact LeO.refl _)
   | (with_reducible exact LeO.none _)
   | (with_reducible refine LeO.ite ?_ ?_)
   | (with_reducible refine LeO.bind ?_ (fun _=>?_))
   | exact ih0 _ _ _ _
   | exact ih1 _ _ _ _ _ _ _ _ _ _ _ _ _
   | exact ih2 _ _ _ _ _ _ _ _ _ _ _ _
   | exact ih3 _ _ _ _ _ _ _ _ _ _ _ _
   | exact bosunlaw05_Awake.mono _
   | exact bosunlaw05_Small.mono _ _
   | exact value_Value_Check.mono _ _ _ _ _ _ _
   | exact value_Value_Depth.mono _ _ _ _ _ _ _
   | exact value_Value_Same.mono _ _ _ _ _ _ _ _ _ _ _ _ _
   | exact LeO.none _
   | refine LeO.ite ?_ ?_
   | refine LeO.bind ?_ (fun _=>?_)
def bosunlaw05_ValueAlike.T11 : Bool × List (List Nat × List Nat):=(true,[([],[]),([0,0],[0]),([1],[1]),([1],[1]),([2,3,1,1],[1,2,3]),([1,4],[1,4]),([5,4],[5]),([6],[6]),([6],[6]),([7,8,6,6],[6,7,8]),([6,9],[6,9]),([10,9],[10]),([11],[11]),([12,11,11],[11,12]),([11],[11]),([14,13,11],[11,14]),([13,15,11],[11,13,15]),([11,16],[11,16]),([17,15],[17]),([18],[18]),([19,18,18],[18,19]),([18],[18]),([21,20,18],[18,21]),([20,22,18],[18,20,22]),([18,23],[18,23]),([24,22,0,1,2,3,4,5,6,7,8,9,10,11,12,13,14,15,16,17,18,19,20,21,22,23,24],[24])])
def bosunlaw05_ValueAlike.B11 : List Nat:=[0,1,3,3,15,31,63,127,127,511,1023,2047,4095,8191,4095,32767,65535,131071,262143,524287,1048575,524287,4194303,8388607,16777215,33554431]
theorem bosunlaw05_ValueAlike.tab11 : rtab .any (opsOf Tryd.f5 11) = bosunlaw05_ValueAlike.T11:=by kernel_rfl
theorem bosunlaw05_ValueAlike.bits11 : waitsOk bosunlaw05_ValueAlike.T11.2 bosunlaw05_ValueAlike.B11 = true:=by kernel_rfl
set_option maxHeartbeats 8000000 in
set_option maxRecDepth 100000 in
theorem bosunlaw05_ValueAlike.calls (k : Nat) (A0 : Option Addr) (c0 : Nat) (l0 : List (S75)) (a1 : ByteArray) (a2 : Int) (r : Bool) (w : World) (hr0 : Kd.C k75 w A0 l0.length l0) (hc0 : l0.length ≤ c0) (h : bosunlaw05_ValueAlike.f k l0 a1 a2 = some r) (hG : GW.GW w) (hT : r = true) :
  Calls Tryd.prog 5 #[.slice A0 l0.length c0,.string a1,.int .i64 a2] w fun e w'=>e = .returned (.bool r) ∧ Below w.heap.size w w':=by
 have HTr:=Aside0.mk hT
 clear hT
 have hu29:=Tryd.underlying29
 have hu33:=Tryd.underlying33
 have HR0:=Aside0.mk hr0
 have HC0:=Aside0.mk hc0
 clear hr0 hc0
 have HB:=Aside0.mk (Below.refl w.heap.size w)
 have H : ((bosunlaw05_Small.f k l0).bind fun t494=>(if t494 = true then (bosunlaw05_ValueAlike.j0 k l0 a1 a2 (decide ((a1.size : Int) > 5000))) else (bosunlaw05_ValueAlike.j0 k l0 a1 a2 true))) = some r:=h
 clear h
 have HC4:=Aside0.mk H
 clear H
 go_enter Tryd.func5,Tryd.ntmps5
 go_upto_region 1 with (fail)
 go_cut [17] (fun v17 wc=>∃ (kq : Nat) (x17_3 : Bool),v17 = .bool x17_3 ∧ Aside0 (bosunlaw05_ValueAlike.j0 kq l0 a1 a2 x17_3 = some r) ∧ Aside0 (kq ≤ k) ∧ Aside0 (Below w.heap.size w wc))
 case first =>
  have H:=HC4.out
  clear HC4
  replace H:=Option.bind_eq_some_iff.mp H
  obtain ⟨t494,A50,H⟩:=H
  replace H : (if t494 = true then (bosunlaw05_ValueAlike.j0 k l0 a1 a2 (decide ((a1.size : Int) > 5000))) else (bosunlaw05_ValueAlike.j0 k l0 a1 a2 true)) = some r:=H
  have A5:=Aside0.mk A50
  clear A50
  by_cases c6 : t494 = true
  ·subst c6
   have H1 : (bosunlaw05_ValueAlike.j0 k l0 a1 a2 (decide ((a1.size : Int) > 5000))) = some r:=by rw [if_pos rfl] at H;exact H
   clear H
   have H:=H1
   clear H1
   have H':=Aside0.mk H
   clear H
   go_wp2_with (first|((with_reducible refine gate_callee (f:=8) rfl ?_);refine goesL_ (some 11) rfl rfl Tryd.func8 (by kernel_rfl) rfl #[.slice A0 l0.length c0] rfl (by (try simp only [List.map_toArray,List.map_cons,List.map_nil]);first|done|rfl|(simp only [List.length_drop,List.length_take];rfl)|(simp (disch:=first|omega|(simp at *;omega)) only [u64_id,i64_id,u8_id];rfl)) ?_;(with_reducible refine (bosunlaw05_Small.calls k _ _ l0 true _ ?side1 ?side2 A5.out).mono ?_);(case side1=>repeat (first|exact (Kd.C_below HR0.out HB.out)|(with_reducible refine Kd.C_alloc ?_ _)|(with_reducible refine Kd.C_drewN ?_ _)|(with_reducible refine Kd.C_drew ?_)));(case side2=>exact HC0.out);rintro e w7 ⟨rfl,hb⟩;refine ⟨_,rfl,?_⟩;have n0_:=Aside0.mk (below_step (by repeat (first|(with_reducible first|exact HB.out|apply below_alloc|apply pw_below_drewN|apply below_drew1)|exact HB.out)) hb);clear HB;have HB:=n0_;clear n0_;(try clear hb);(try clear hb2);(try clear hk);(try clear hi)))
   go_meet
   case rel=>exact ⟨_,(decide ((a1.size : Int) > 5000)),(by first|rfl|(simp;done)|(simp [*];done)),H',⟨by first|omega|exact Nat.le_refl _⟩,⟨by repeat (first|(with_reducible first|exact HB.out|apply below_alloc|apply pw_below_drewN|apply below_drew1)|exact HB.out)⟩⟩
  ·replace c6:=Bool.eq_false_iff.mpr c6
   subst c6
   have H1 : (bosunlaw05_ValueAlike.j0 k l0 a1 a2 true) = some r:=by rw [if_neg (show ¬ (false = true) by decide)] at H;exact H
   clear H
   have H:=H1
   clear H1
   have H':=Aside0.mk H
   clear H
   go_wp2_with (first|((with_reducible refine gate_callee (f:=8) rfl ?_);refine goesL_ (some 11) rfl rfl Tryd.func8 (by kernel_rfl) rfl #[.slice A0 l0.length c0] rfl (by (try simp only [List.map_toArray,List.map_cons,List.map_nil]);first|done|rfl|(simp only [List.length_drop,List.length_take];rfl)|(simp (disch:=first|omega|(simp at *;omega)) only [u64_id,i64_id,u8_id];rfl)) ?_;(with_reducible refine (bosunlaw05_Small.calls k _ _ l0 false _ ?side1 ?side2 A5.out).mono ?_);(case side1=>repeat (first|exact (Kd.C_below HR0.out HB.out)|(with_reducible refine Kd.C_alloc ?_ _)|(with_reducible refine Kd.C_drewN ?_ _)|(with_reducible refine Kd.C_drew ?_)));(case side2=>exact HC0.out);rintro e w8 ⟨rfl,hb⟩;refine ⟨_,rfl,?_⟩;have n0_:=Aside0.mk (below_step (by repeat (first|(with_reducible first|exact HB.out|apply below_alloc|apply pw_below_drewN|apply below_drew1)|exact HB.out)) hb);clear HB;have HB:=n0_;clear n0_;(try clear hb);(try clear hb2);(try clear hk);(try clear hi)))
   go_meet
   case rel=>exact ⟨_,(true),(by first|rfl|(simp;done)|(simp [*];done)),H',⟨by first|omega|exact Nat.le_refl _⟩,⟨by repeat (first|(with_reducible first|exact HB.out|apply below_alloc|apply pw_below_drewN|apply below_drew1)|exact HB.out)⟩⟩
 case rest =>
  clear HC4
  try clear p2
  try clear c5
  try clear c6
  try clear c8
  obtain ⟨kq,x17_3,rfl,HA,HJ3,HB⟩:=hcut
  cases kq with
  | zero=>exact absurd HA.out (by simp [bosunlaw05_ValueAlike.j0])
  | succ kj3 =>
   have H:=HA.out
   clear HA
   simp only [bosunlaw05_ValueAlike.j0] at H
   by_cases c9 : x17_3 = true
   ·subst c9
    have H1 : ((bosunlaw05_Awake.f kj3).bind fun t495=>(some t495)) = some r:=by rw [if_pos rfl] at H;exact H
    clear H
    have H:=H1
    clear H1
    replace H:=Option.bind_eq_some_iff.mp H
    obtain ⟨t495,A100,H⟩:=H
    replace H : (some t495) = some r:=H
    have A10:=Aside0.mk A100
    clear A100
    obtain rfl:=Option.some.inj H
    go_wp2_with (first|((with_reducible refine gate_callee (f:=9) rfl ?_);refine goesL_ (some 18) rfl rfl Tryd.func9 (by kernel_rfl) rfl #[] rfl (by (try simp only [List.map_toArray,List.map_cons,List.map_nil]);first|done|rfl|(simp only [List.length_drop,List.length_take];rfl)|(simp (disch:=first|omega|(simp at *;omega)) only [u64_id,i64_id,u8_id];rfl)) ?_;(with_reducible refine (bosunlaw05_Awake.calls kj3  t495 _ A10.out (by first|assumption|exact GW.below hG (by first|exact HB.out|assumption|(repeat (first|(with_reducible first|exact HB.out|apply below_alloc|apply pw_below_drewN|apply below_drew1)|exact HB.out)))|exact GW.drawn hG (by first|assumption|(repeat (first|exact Drawn0.refl _|assumption|apply Drawn0.step))))).mono ?_);rintro e w11 ⟨rfl,hb⟩;refine ⟨_,rfl,?_⟩;have n0_:=Aside0.mk (below_step (by repeat (first|(with_reducible first|exact HB.out|apply below_alloc|apply pw_below_drewN|apply below_drew1)|exact HB.out)) hb);clear HB;have HB:=n0_;clear n0_;(try clear hb);(try clear hb2);(try clear hk);(try clear hi)))
    go_ret
    exact ⟨by first|rfl|(simp [errW_none,errW_some] <;> rfl)|(simp [*,errW_none,errW_some] <;> rfl),by repeat (first|(with_reducible first|exact HB.out|apply below_alloc|apply pw_below_drewN|apply below_drew1)|exact HB.out)⟩
   ·replace c9:=Bool.eq_false_iff.mpr c9
    subst c9
    have H1 : ((bosunlaw05_Build.f l0).bind fun bt496=>(if bt496.1 = 3 then (bosunlaw05_ValueAlike.j1 kj3 a2 bt496.1 bt496.2.1 bt496.2.2.1 bt496.2.2.2.1 bt496.2.2.2.2.1 bt496.2.2.2.2.2.1 bt496.1 bt496.2.1 bt496.2.2.1 bt496.2.2.2.1 bt496.2.2.2.2.1 bt496.2.2.2.2.2.1) else (bosunlaw05_ValueAlike.j1 kj3 a2 bt496.1 bt496.2.1 bt496.2.2.1 bt496.2.2.2.1 bt496.2.2.2.2.1 bt496.2.2.2.2.2.1 bt496.1 bt496.2.1 bt496.2.2.1 a1 bt496.2.2.2.2.1 bt496.2.2.2.2.2.1))) = some r:=by rw [if_neg (show ¬ (false = true) by decide)] at H;exact H
    clear H
    have H:=H1
    clear H1
    replace H:=Option.bind_eq_some_iff.mp H
    obtain ⟨⟨t496,t497,t498,t499,t500,t503,t506,t507,t508,t509,t510,t513⟩,A120,H⟩:=H
    replace H : (if t496 = 3 then (bosunlaw05_ValueAlike.j1 kj3 a2 t496 t497 t498 t499 t500 t503 t496 t497 t498 t499 t500 t503) else (bosunlaw05_ValueAlike.j1 kj3 a2 t496 t497 t498 t499 t500 t503 t496 t497 t498 a1 t500 t503)) = some r:=H
    have A12:=Aside0.mk A120
    clear A120
    have HC13:=Aside0.mk H
    clear H
    go_upto_if 27 with (first|((with_reducible refine gate_callee (f:=10) rfl ?_);refine goesL_ (some 21) rfl rfl Tryd.func10 (by kernel_rfl) rfl #[.slice A0 l0.length c0] rfl (by (try simp only [List.map_toArray,List.map_cons,List.map_nil]);first|done|rfl|(simp only [List.length_drop,List.length_take];rfl)|(simp (disch:=first|omega|(simp at *;omega)) only [u64_id,i64_id,u8_id];rfl)) ?_;(with_reducible refine (bosunlaw05_Build.calls _ _ l0 t496 t497 t498 t499 t500 t503 t506 t507 t508 t509 t510 t513 _ ?side1 ?side2 A12.out).mono ?_);(case side1=>repeat (first|exact (Kd.C_below HR0.out HB.out)|(with_reducible refine Kd.C_alloc ?_ _)|(with_reducible refine Kd.C_drewN ?_ _)|(with_reducible refine Kd.C_drew ?_)));(case side2=>exact HC0.out);rintro e w14 ⟨v501,v504,v511,v514,rfl,ho0,ho1,ho2,ho3,hb⟩;refine ⟨_,rfl,?_⟩;have n0_:=Aside0.mk (Kd.V_lower (Kd.V_mono (ok':=fun k_=>True) ho0 (fun k_ hk_=>trivial)) (below_size (by repeat (first|(with_reducible first|exact HB.out|apply below_alloc|apply pw_below_drewN|apply below_drew1)|exact HB.out))));have n1_:=Aside0.mk (Kd.V_lower (Kd.V_mono (ok':=fun k_=>True) ho1 (fun k_ hk_=>trivial)) (below_size (by repeat (first|(with_reducible first|exact HB.out|apply below_alloc|apply pw_below_drewN|apply below_drew1)|exact HB.out))));have n2_:=Aside0.mk (Kd.V_lower (Kd.V_mono (ok':=fun k_=>True) ho2 (fun k_ hk_=>trivial)) (below_size (by repeat (first|(with_reducible first|exact HB.out|apply below_alloc|apply pw_below_drewN|apply below_drew1)|exact HB.out))));have n3_:=Aside0.mk (Kd.V_lower (Kd.V_mono (ok':=fun k_=>True) ho3 (fun k_ hk_=>trivial)) (below_size (by repeat (first|(with_reducible first|exact HB.out|apply below_alloc|apply pw_below_drewN|apply below_drew1)|exact HB.out))));have n4_:=Aside0.mk (below_step (by repeat (first|(with_reducible first|exact HB.out|apply below_alloc|apply pw_below_drewN|apply below_drew1)|exact HB.out)) hb);clear HB;have HO502:=n0_;have HO505:=n1_;have HO512:=n2_;have HO515:=n3_;have HB:=n4_;clear n0_ n1_ n2_ n3_ n4_;(try clear hb);(try clear hb2);(try clear hk);(try clear hi);(try clear ho0);(try clear ho1);(try clear ho2);(try clear ho3))|((with_reducible refine gate_dst (N:=7) rfl ?_);(try (refine gate_guard (by rfl) ?_;dsimp only));refine box_event ?hg (N:=7) ?hd (cs:=#[.int .i64 0,.bool false,.int .i64 0,.string (⟨#[]⟩ : ByteArray),.slice none 0 0,.slice none 0 0]) (t:=29) ?hr ?_;(case hd=>rfl);(case hg=>rfl);(case hr=>first|(go_simp;done)|(go_simp;rfl));intro gb516 hg w15 hbox hb;have n0_:=Aside0.mk (Kd.V_below (Kd.V_elderB (by (with_reducible repeat (first|apply Kd.V_alloc|apply Kd.V_drewN|apply Kd.V_drew));exact HO502.out) gb516 (Nat.le_of_eq hg.symm)) hb);have n1_:=Aside0.mk (Kd.V_below (Kd.V_elderB (by (with_reducible repeat (first|apply Kd.V_alloc|apply Kd.V_drewN|apply Kd.V_drew));exact HO505.out) gb516 (Nat.le_of_eq hg.symm)) hb);have n2_:=Aside0.mk (Kd.V_below (Kd.V_elderB (by (with_reducible repeat (first|apply Kd.V_alloc|apply Kd.V_drewN|apply Kd.V_drew));exact HO512.out) gb516 (Nat.le_of_eq hg.symm)) hb);have n3_:=Aside0.mk (Kd.V_below (Kd.V_elderB (by (with_reducible repeat (first|apply Kd.V_alloc|apply Kd.V_drewN|apply Kd.V_drew));exact HO515.out) gb516 (Nat.le_of_eq hg.symm)) hb);have n4_:=Aside0.mk (below_step (by repeat (first|(with_reducible first|exact HB.out|apply below_alloc|apply pw_below_drewN|apply below_drew1)|exact HB.out)) hb);have n5_:=Aside0.mk (hbox);have n6_:=Aside0.mk ((by rw [hg];exact (below_size (by repeat (first|(with_reducible first|exact HB.out|apply below_alloc|apply pw_below_drewN|apply below_drew1)|exact HB.out))) : w.heap.size ≤ gb516));have n7_:=Aside0.mk ((by rw [hg];exact (below_size (by repeat (first|(with_reducible first|exact HB.out|apply below_alloc|apply pw_below_drewN|apply below_drew1)|exact HB.out))) : w.heap.size ≤ gb516));clear HO502;clear HO505;clear HO512;clear HO515;clear HB;have HO502:=n0_;have HO505:=n1_;have HO512:=n2_;have HO515:=n3_;have HB:=n4_;have BK516:=n5_;have GW516:=n6_;have GE516:=n7_;clear n0_ n1_ n2_ n3_ n4_ n5_ n6_ n7_;clear hb hbox hg)|((with_reducible refine gate_dst (N:=8) rfl ?_);(try (refine gate_guard (by rfl) ?_;dsimp only));refine box_event ?hg (N:=8) ?hd (cs:=#[.int .i64 0,.bool false,.int .i64 0,.string (⟨#[]⟩ : ByteArray),.slice none 0 0,.slice none 0 0]) (t:=33) ?hr ?_;(case hd=>rfl);(case hg=>rfl);(case hr=>first|(go_simp;done)|(go_simp;rfl));intro gb517 hg w16 hbox hb;have n0_:=Aside0.mk (Kd.V_below (Kd.V_elderB (by (with_reducible repeat (first|apply Kd.V_alloc|apply Kd.V_drewN|apply Kd.V_drew));exact HO502.out) gb517 (Nat.le_of_eq hg.symm)) hb);have n1_:=Aside0.mk (Kd.V_below (Kd.V_elderB (by (with_reducible repeat (first|apply Kd.V_alloc|apply Kd.V_drewN|apply Kd.V_drew));exact HO505.out) gb517 (Nat.le_of_eq hg.symm)) hb);have n2_:=Aside0.mk (Kd.V_below (Kd.V_elderB (by (with_reducible repeat (first|apply Kd.V_alloc|apply Kd.V_drewN|apply Kd.V_drew));exact HO512.out) gb517 (Nat.le_of_eq hg.symm)) hb);have n3_:=Aside0.mk (Kd.V_below (Kd.V_elderB (by (with_reducible repeat (first|apply Kd.V_alloc|apply Kd.V_drewN|apply Kd.V_drew));exact HO515.out) gb517 (Nat.le_of_eq hg.symm)) hb);have n4_:=Aside0.mk (blk_below (g:=gb516) (o:=.cells #[.int .i64 0,.bool false,.int .i64 0,.string (⟨#[]⟩ : ByteArray),.slice none 0 0,.slice none 0 0] 29 (0,0)) (by (with_reducible repeat (first|apply blk_drewN|apply blk_drew|apply blk_alloc));exact BK516.out) hb);have n5_:=Aside0.mk (below_step (by repeat (first|(with_reducible first|exact HB.out|apply below_alloc|apply pw_below_drewN|apply below_drew1|refine below_set ?_ GE516.out)|exact HB.out)) hb);have n6_:=Aside0.mk (hbox);have n7_:=Aside0.mk ((by rw [hg];exact (below_size (by repeat (first|(with_reducible first|exact HB.out|apply below_alloc|apply pw_below_drewN|apply below_drew1|refine below_set ?_ GE516.out)|exact HB.out))) : w.heap.size ≤ gb517));have n8_:=Aside0.mk ((by rw [hg];exact (below_size (by repeat (first|(with_reducible first|exact HB.out|apply below_alloc|apply pw_below_drewN|apply below_drew1|refine below_set ?_ GE516.out)|exact HB.out))) : w.heap.size ≤ gb517));have n9_:=Aside0.mk ((by rw [hg];exact Nat.ne_of_lt (blk_lt (g:=gb516) (o:=.cells #[.int .i64 0,.bool false,.int .i64 0,.string (⟨#[]⟩ : ByteArray),.slice none 0 0,.slice none 0 0] 29 (0,0)) (by (with_reducible repeat (first|apply blk_drewN|apply blk_drew|apply blk_alloc));exact BK516.out)) : gb516 ≠ gb517));have n10_:=Aside0.mk ((by rw [hg];exact Nat.ne_of_gt (blk_lt (g:=gb516) (o:=.cells #[.int .i64 0,.bool false,.int .i64 0,.string (⟨#[]⟩ : ByteArray),.slice none 0 0,.slice none 0 0] 29 (0,0)) (by (with_reducible repeat (first|apply blk_drewN|apply blk_drew|apply blk_alloc));exact BK516.out)) : gb517 ≠ gb516));clear HO502;clear HO505;clear HO512;clear HO515;clear BK516;clear HB;have HO502:=n0_;have HO505:=n1_;have HO512:=n2_;have HO515:=n3_;have BK516:=n4_;have HB:=n5_;have BK517:=n6_;have GW517:=n7_;have GE517:=n8_;have NB516_517:=n9_;have NB517_516:=n10_;clear n0_ n1_ n2_ n3_ n4_ n5_ n6_ n7_ n8_ n9_ n10_;clear hb hbox hg;have hnb17:=NB516_517.out;have hnc17:=NB517_516.out;have hcz18_0 : w16.cell? ⟨gb516,0,none⟩ = some (.int .i64 0):=(blk_cell BK516.out 0).trans rfl;have hcz18_1 : w16.cell? ⟨gb516,1,none⟩ = some (.bool false):=(blk_cell BK516.out 1).trans rfl;have hcz18_2 : w16.cell? ⟨gb516,2,none⟩ = some (.int .i64 0):=(blk_cell BK516.out 2).trans rfl;have hcz18_3 : w16.cell? ⟨gb516,3,none⟩ = some (.string (⟨#[]⟩ : ByteArray)):=(blk_cell BK516.out 3).trans rfl;have hcz18_4 : w16.cell? ⟨gb516,4,none⟩ = some (.slice none 0 0):=(blk_cell BK516.out 4).trans rfl;have hcz18_5 : w16.cell? ⟨gb516,5,none⟩ = some (.slice none 0 0):=(blk_cell BK516.out 5).trans rfl;have hfz18_0:=blk_frozen BK516.out 0;have hfz18_1:=blk_frozen BK516.out 1;have hfz18_2:=blk_frozen BK516.out 2;have hfz18_3:=blk_frozen BK516.out 3;have hfz18_4:=blk_frozen BK516.out 4;have hfz18_5:=blk_frozen BK516.out 5;obtain ⟨Ao19,co19,eo19⟩:=Kd.V_slice HO502.out;subst eo19;obtain ⟨Ao20,co20,eo20⟩:=Kd.V_slice HO505.out;subst eo20;have hcz21_0 : w16.cell? ⟨gb517,0,none⟩ = some (.int .i64 0):=(blk_cell BK517.out 0).trans rfl;have hcz21_1 : w16.cell? ⟨gb517,1,none⟩ = some (.bool false):=(blk_cell BK517.out 1).trans rfl;have hcz21_2 : w16.cell? ⟨gb517,2,none⟩ = some (.int .i64 0):=(blk_cell BK517.out 2).trans rfl;have hcz21_3 : w16.cell? ⟨gb517,3,none⟩ = some (.string (⟨#[]⟩ : ByteArray)):=(blk_cell BK517.out 3).trans rfl;have hcz21_4 : w16.cell? ⟨gb517,4,none⟩ = some (.slice none 0 0):=(blk_cell BK517.out 4).trans rfl;have hcz21_5 : w16.cell? ⟨gb517,5,none⟩ = some (.slice none 0 0):=(blk_cell BK517.out 5).trans rfl;have hfz21_0:=blk_frozen BK517.out 0;have hfz21_1:=blk_frozen BK517.out 1;have hfz21_2:=blk_frozen BK517.out 2;have hfz21_3:=blk_frozen BK517.out 3;have hfz21_4:=blk_frozen BK517.out 4;have hfz21_5:=blk_frozen BK517.out 5;obtain ⟨Ao22,co22,eo22⟩:=Kd.V_slice HO512.out;subst eo22;obtain ⟨Ao23,co23,eo23⟩:=Kd.V_slice HO515.out;subst eo23)|((with_reducible refine gate_dst (N:=9) rfl ?_);(try (refine gate_guard (by rfl) ?_;dsimp only));refine box_event ?hg (N:=9) ?hd (cs:=#[.int .i64 0,.bool false,.int .i64 0,.string (⟨#[]⟩ : ByteArray),.slice none 0 0,.slice none 0 0]) (t:=29) ?hr ?_;(case hd=>rfl);(case hg=>rfl);(case hr=>first|(go_simp;done)|(go_simp;rfl));intro gb518 hg w24 hbox hb;have n0_:=Aside0.mk (Kd.V_below (Kd.V_elderB (by (with_reducible repeat (first|apply Kd.V_alloc|apply Kd.V_drewN|apply Kd.V_drew));exact (Kd.V_mono (Kd.V_mono (Kd.V_far (p:=⟨gb517,5,none⟩) (Kd.V_far (p:=⟨gb517,4,none⟩) (Kd.V_far (p:=⟨gb517,3,none⟩) (Kd.V_far (p:=⟨gb517,2,none⟩) (Kd.V_far (p:=⟨gb517,1,none⟩) (Kd.V_far (p:=⟨gb517,0,none⟩) (Kd.V_far (p:=⟨gb516,5,none⟩) (Kd.V_far (p:=⟨gb516,4,none⟩) (Kd.V_far (p:=⟨gb516,3,none⟩) (Kd.V_far (p:=⟨gb516,2,none⟩) (Kd.V_far (p:=⟨gb516,1,none⟩) (Kd.V_far (p:=⟨gb516,0,none⟩) (Kd.V_mono (Kd.V_mono HO502.out (fun k_ hk=>(⟨hk,hk.1.2⟩ : _ ∧ k_ ≠ gb516))) (fun k_ hk=>(⟨hk,hk.1.2⟩ : _ ∧ k_ ≠ gb517))) (fun _ hk=>hk.1.2) (.int .i64 t496)) (fun _ hk=>hk.1.2) (.bool t497)) (fun _ hk=>hk.1.2) (.int .i64 t498)) (fun _ hk=>hk.1.2) (.string t499)) (fun _ hk=>hk.1.2) (.slice Ao19 t500.length co19)) (fun _ hk=>hk.1.2) (.slice Ao20 t503.length co20)) (fun _ hk=>hk.2) (.int .i64 t506)) (fun _ hk=>hk.2) (.bool t507)) (fun _ hk=>hk.2) (.int .i64 t508)) (fun _ hk=>hk.2) (.string t509)) (fun _ hk=>hk.2) (.slice Ao22 t510.length co22)) (fun _ hk=>hk.2) (.slice Ao23 t513.length co23)) (fun _ h_=>h_.1)) (fun _ h_=>h_.1))) gb518 (Nat.le_of_eq hg.symm)) hb);have n1_:=Aside0.mk (Kd.V_below (Kd.V_elderB (by (with_reducible repeat (first|apply Kd.V_alloc|apply Kd.V_drewN|apply Kd.V_drew));exact (Kd.V_mono (Kd.V_mono (Kd.V_far (p:=⟨gb517,5,none⟩) (Kd.V_far (p:=⟨gb517,4,none⟩) (Kd.V_far (p:=⟨gb517,3,none⟩) (Kd.V_far (p:=⟨gb517,2,none⟩) (Kd.V_far (p:=⟨gb517,1,none⟩) (Kd.V_far (p:=⟨gb517,0,none⟩) (Kd.V_far (p:=⟨gb516,5,none⟩) (Kd.V_far (p:=⟨gb516,4,none⟩) (Kd.V_far (p:=⟨gb516,3,none⟩) (Kd.V_far (p:=⟨gb516,2,none⟩) (Kd.V_far (p:=⟨gb516,1,none⟩) (Kd.V_far (p:=⟨gb516,0,none⟩) (Kd.V_mono (Kd.V_mono HO505.out (fun k_ hk=>(⟨hk,hk.1.2⟩ : _ ∧ k_ ≠ gb516))) (fun k_ hk=>(⟨hk,hk.1.2⟩ : _ ∧ k_ ≠ gb517))) (fun _ hk=>hk.1.2) (.int .i64 t496)) (fun _ hk=>hk.1.2) (.bool t497)) (fun _ hk=>hk.1.2) (.int .i64 t498)) (fun _ hk=>hk.1.2) (.string t499)) (fun _ hk=>hk.1.2) (.slice Ao19 t500.length co19)) (fun _ hk=>hk.1.2) (.slice Ao20 t503.length co20)) (fun _ hk=>hk.2) (.int .i64 t506)) (fun _ hk=>hk.2) (.bool t507)) (fun _ hk=>hk.2) (.int .i64 t508)) (fun _ hk=>hk.2) (.string t509)) (fun _ hk=>hk.2) (.slice Ao22 t510.length co22)) (fun _ hk=>hk.2) (.slice Ao23 t513.length co23)) (fun _ h_=>h_.1)) (fun _ h_=>h_.1))) gb518 (Nat.le_of_eq hg.symm)) hb);have n2_:=Aside0.mk (Kd.V_below (Kd.V_elderB (by (with_reducible repeat (first|apply Kd.V_alloc|apply Kd.V_drewN|apply Kd.V_drew));exact (Kd.V_mono (Kd.V_mono (Kd.V_far (p:=⟨gb517,5,none⟩) (Kd.V_far (p:=⟨gb517,4,none⟩) (Kd.V_far (p:=⟨gb517,3,none⟩) (Kd.V_far (p:=⟨gb517,2,none⟩) (Kd.V_far (p:=⟨gb517,1,none⟩) (Kd.V_far (p:=⟨gb517,0,none⟩) (Kd.V_far (p:=⟨gb516,5,none⟩) (Kd.V_far (p:=⟨gb516,4,none⟩) (Kd.V_far (p:=⟨gb516,3,none⟩) (Kd.V_far (p:=⟨gb516,2,none⟩) (Kd.V_far (p:=⟨gb516,1,none⟩) (Kd.V_far (p:=⟨gb516,0,none⟩) (Kd.V_mono (Kd.V_mono HO512.out (fun k_ hk=>(⟨hk,hk.1.2⟩ : _ ∧ k_ ≠ gb516))) (fun k_ hk=>(⟨hk,hk.1.2⟩ : _ ∧ k_ ≠ gb517))) (fun _ hk=>hk.1.2) (.int .i64 t496)) (fun _ hk=>hk.1.2) (.bool t497)) (fun _ hk=>hk.1.2) (.int .i64 t498)) (fun _ hk=>hk.1.2) (.string t499)) (fun _ hk=>hk.1.2) (.slice Ao19 t500.length co19)) (fun _ hk=>hk.1.2) (.slice Ao20 t503.length co20)) (fun _ hk=>hk.2) (.int .i64 t506)) (fun _ hk=>hk.2) (.bool t507)) (fun _ hk=>hk.2) (.int .i64 t508)) (fun _ hk=>hk.2) (.string t509)) (fun _ hk=>hk.2) (.slice Ao22 t510.length co22)) (fun _ hk=>hk.2) (.slice Ao23 t513.length co23)) (fun _ h_=>h_.1)) (fun _ h_=>h_.1))) gb518 (Nat.le_of_eq hg.symm)) hb);have n3_:=Aside0.mk (Kd.V_below (Kd.V_elderB (by (with_reducible repeat (first|apply Kd.V_alloc|apply Kd.V_drewN|apply Kd.V_drew));exact (Kd.V_mono (Kd.V_mono (Kd.V_far (p:=⟨gb517,5,none⟩) (Kd.V_far (p:=⟨gb517,4,none⟩) (Kd.V_far (p:=⟨gb517,3,none⟩) (Kd.V_far (p:=⟨gb517,2,none⟩) (Kd.V_far (p:=⟨gb517,1,none⟩) (Kd.V_far (p:=⟨gb517,0,none⟩) (Kd.V_far (p:=⟨gb516,5,none⟩) (Kd.V_far (p:=⟨gb516,4,none⟩) (Kd.V_far (p:=⟨gb516,3,none⟩) (Kd.V_far (p:=⟨gb516,2,none⟩) (Kd.V_far (p:=⟨gb516,1,none⟩) (Kd.V_far (p:=⟨gb516,0,none⟩) (Kd.V_mono (Kd.V_mono HO515.out (fun k_ hk=>(⟨hk,hk.1.2⟩ : _ ∧ k_ ≠ gb516))) (fun k_ hk=>(⟨hk,hk.1.2⟩ : _ ∧ k_ ≠ gb517))) (fun _ hk=>hk.1.2) (.int .i64 t496)) (fun _ hk=>hk.1.2) (.bool t497)) (fun _ hk=>hk.1.2) (.int .i64 t498)) (fun _ hk=>hk.1.2) (.string t499)) (fun _ hk=>hk.1.2) (.slice Ao19 t500.length co19)) (fun _ hk=>hk.1.2) (.slice Ao20 t503.length co20)) (fun _ hk=>hk.2) (.int .i64 t506)) (fun _ hk=>hk.2) (.bool t507)) (fun _ hk=>hk.2) (.int .i64 t508)) (fun _ hk=>hk.2) (.string t509)) (fun _ hk=>hk.2) (.slice Ao22 t510.length co22)) (fun _ hk=>hk.2) (.slice Ao23 t513.length co23)) (fun _ h_=>h_.1)) (fun _ h_=>h_.1))) gb518 (Nat.le_of_eq hg.symm)) hb);have n4_:=Aside0.mk (blk_below (g:=gb516) (o:=.cells #[.int .i64 t496,.bool t497,.int .i64 t498,.string t499,.slice Ao19 t500.length co19,.slice Ao20 t503.length co20] 29 (0,0)) (by (with_reducible repeat (first|apply blk_drewN|apply blk_drew|apply blk_alloc));refine blk_far ?_ NB516_517.out _;(with_reducible repeat (first|apply blk_drewN|apply blk_drew|apply blk_alloc));refine blk_far ?_ NB516_517.out _;(with_reducible repeat (first|apply blk_drewN|apply blk_drew|apply blk_alloc));refine blk_far ?_ NB516_517.out _;(with_reducible repeat (first|apply blk_drewN|apply blk_drew|apply blk_alloc));refine blk_far ?_ NB516_517.out _;(with_reducible repeat (first|apply blk_drewN|apply blk_drew|apply blk_alloc));refine blk_far ?_ NB516_517.out _;(with_reducible repeat (first|apply blk_drewN|apply blk_drew|apply blk_alloc));refine blk_far ?_ NB516_517.out _;(with_reducible repeat (first|apply blk_drewN|apply blk_drew|apply blk_alloc));refine blk_put (cs:=#[.int .i64 t496,.bool t497,.int .i64 t498,.string t499,.slice Ao19 t500.length co19,.slice none 0 0]) ?_ 5 _ rfl;(with_reducible repeat (first|apply blk_drewN|apply blk_drew|apply blk_alloc));refine blk_put (cs:=#[.int .i64 t496,.bool t497,.int .i64 t498,.string t499,.slice none 0 0,.slice none 0 0]) ?_ 4 _ rfl;(with_reducible repeat (first|apply blk_drewN|apply blk_drew|apply blk_alloc));refine blk_put (cs:=#[.int .i64 t496,.bool t497,.int .i64 t498,.string (⟨#[]⟩ : ByteArray),.slice none 0 0,.slice none 0 0]) ?_ 3 _ rfl;(with_reducible repeat (first|apply blk_drewN|apply blk_drew|apply blk_alloc));refine blk_put (cs:=#[.int .i64 t496,.bool t497,.int .i64 0,.string (⟨#[]⟩ : ByteArray),.slice none 0 0,.slice none 0 0]) ?_ 2 _ rfl;(with_reducible repeat (first|apply blk_drewN|apply blk_drew|apply blk_alloc));refine blk_put (cs:=#[.int .i64 t496,.bool false,.int .i64 0,.string (⟨#[]⟩ : ByteArray),.slice none 0 0,.slice none 0 0]) ?_ 1 _ rfl;(with_reducible repeat (first|apply blk_drewN|apply blk_drew|apply blk_alloc));refine blk_put (cs:=#[.int .i64 0,.bool false,.int .i64 0,.string (⟨#[]⟩ : ByteArray),.slice none 0 0,.slice none 0 0]) ?_ 0 _ rfl;(with_reducible repeat (first|apply blk_drewN|apply blk_drew|apply blk_alloc));exact BK516.out) hb);have n5_:=Aside0.mk (blk_below (g:=gb517) (o:=.cells #[.int .i64 t506,.bool t507,.int .i64 t508,.string t509,.slice Ao22 t510.length co22,.slice Ao23 t513.length co23] 33 (0,0)) (by (with_reducible repeat (first|apply blk_drewN|apply blk_drew|apply blk_alloc));refine blk_put (cs:=#[.int .i64 t506,.bool t507,.int .i64 t508,.string t509,.slice Ao22 t510.length co22,.slice none 0 0]) ?_ 5 _ rfl;(with_reducible repeat (first|apply blk_drewN|apply blk_drew|apply blk_alloc));refine blk_put (cs:=#[.int .i64 t506,.bool t507,.int .i64 t508,.string t509,.slice none 0 0,.slice none 0 0]) ?_ 4 _ rfl;(with_reducible repeat (first|apply blk_drewN|apply blk_drew|apply blk_alloc));refine blk_put (cs:=#[.int .i64 t506,.bool t507,.int .i64 t508,.string (⟨#[]⟩ : ByteArray),.slice none 0 0,.slice none 0 0]) ?_ 3 _ rfl;(with_reducible repeat (first|apply blk_drewN|apply blk_drew|apply blk_alloc));refine blk_put (cs:=#[.int .i64 t506,.bool t507,.int .i64 0,.string (⟨#[]⟩ : ByteArray),.slice none 0 0,.slice none 0 0]) ?_ 2 _ rfl;(with_reducible repeat (first|apply blk_drewN|apply blk_drew|apply blk_alloc));refine blk_put (cs:=#[.int .i64 t506,.bool false,.int .i64 0,.string (⟨#[]⟩ : ByteArray),.slice none 0 0,.slice none 0 0]) ?_ 1 _ rfl;(with_reducible repeat (first|apply blk_drewN|apply blk_drew|apply blk_alloc));refine blk_put (cs:=#[.int .i64 0,.bool false,.int .i64 0,.string (⟨#[]⟩ : ByteArray),.slice none 0 0,.slice none 0 0]) ?_ 0 _ rfl;(with_reducible repeat (first|apply blk_drewN|apply blk_drew|apply blk_alloc));refine blk_far ?_ NB517_516.out _;(with_reducible repeat (first|apply blk_drewN|apply blk_drew|apply blk_alloc));refine blk_far ?_ NB517_516.out _;(with_reducible repeat (first|apply blk_drewN|apply blk_drew|apply blk_alloc));refine blk_far ?_ NB517_516.out _;(with_reducible repeat (first|apply blk_drewN|apply blk_drew|apply blk_alloc));refine blk_far ?_ NB517_516.out _;(with_reducible repeat (first|apply blk_drewN|apply blk_drew|apply blk_alloc));refine blk_far ?_ NB517_516.out _;(with_reducible repeat (first|apply blk_drewN|apply blk_drew|apply blk_alloc));refine blk_far ?_ NB517_516.out _;(with_reducible repeat (first|apply blk_drewN|apply blk_drew|apply blk_alloc));exact BK517.out) hb);have n6_:=Aside0.mk (below_step (by repeat (first|(with_reducible first|exact HB.out|apply below_alloc|apply pw_below_drewN|apply below_drew1|refine below_set ?_ GE516.out|refine below_set ?_ GE517.out)|exact HB.out)) hb);have n7_:=Aside0.mk (hbox);have n8_:=Aside0.mk ((by rw [hg];exact (below_size (by repeat (first|(with_reducible first|exact HB.out|apply below_alloc|apply pw_below_drewN|apply below_drew1|refine below_set ?_ GE516.out|refine below_set ?_ GE517.out)|exact HB.out))) : w.heap.size ≤ gb518));have n9_:=Aside0.mk ((by rw [hg];exact (below_size (by repeat (first|(with_reducible first|exact HB.out|apply below_alloc|apply pw_below_drewN|apply below_drew1|refine below_set ?_ GE516.out|refine below_set ?_ GE517.out)|exact HB.out))) : w.heap.size ≤ gb518));have n10_:=Aside0.mk ((by rw [hg];exact Nat.ne_of_lt (blk_lt (g:=gb516) (o:=.cells #[.int .i64 t496,.bool t497,.int .i64 t498,.string t499,.slice Ao19 t500.length co19,.slice Ao20 t503.length co20] 29 (0,0)) (by (with_reducible repeat (first|apply blk_drewN|apply blk_drew|apply blk_alloc));refine blk_far ?_ NB516_517.out _;(with_reducible repeat (first|apply blk_drewN|apply blk_drew|apply blk_alloc));refine blk_far ?_ NB516_517.out _;(with_reducible repeat (first|apply blk_drewN|apply blk_drew|apply blk_alloc));refine blk_far ?_ NB516_517.out _;(with_reducible repeat (first|apply blk_drewN|apply blk_drew|apply blk_alloc));refine blk_far ?_ NB516_517.out _;(with_reducible repeat (first|apply blk_drewN|apply blk_drew|apply blk_alloc));refine blk_far ?_ NB516_517.out _;(with_reducible repeat (first|apply blk_drewN|apply blk_drew|apply blk_alloc));refine blk_far ?_ NB516_517.out _;(with_reducible repeat (first|apply blk_drewN|apply blk_drew|apply blk_alloc));refine blk_put (cs:=#[.int .i64 t496,.bool t497,.int .i64 t498,.string t499,.slice Ao19 t500.length co19,.slice none 0 0]) ?_ 5 _ rfl;(with_reducible repeat (first|apply blk_drewN|apply blk_drew|apply blk_alloc));refine blk_put (cs:=#[.int .i64 t496,.bool t497,.int .i64 t498,.string t499,.slice none 0 0,.slice none 0 0]) ?_ 4 _ rfl;(with_reducible repeat (first|apply blk_drewN|apply blk_drew|apply blk_alloc));refine blk_put (cs:=#[.int .i64 t496,.bool t497,.int .i64 t498,.string (⟨#[]⟩ : ByteArray),.slice none 0 0,.slice none 0 0]) ?_ 3 _ rfl;(with_reducible repeat (first|apply blk_drewN|apply blk_drew|apply blk_alloc));refine blk_put (cs:=#[.int .i64 t496,.bool t497,.int .i64 0,.string (⟨#[]⟩ : ByteArray),.slice none 0 0,.slice none 0 0]) ?_ 2 _ rfl;(with_reducible repeat (first|apply blk_drewN|apply blk_drew|apply blk_alloc));refine blk_put (cs:=#[.int .i64 t496,.bool false,.int .i64 0,.string (⟨#[]⟩ : ByteArray),.slice none 0 0,.slice none 0 0]) ?_ 1 _ rfl;(with_reducible repeat (first|apply blk_drewN|apply blk_drew|apply blk_alloc));refine blk_put (cs:=#[.int .i64 0,.bool false,.int .i64 0,.string (⟨#[]⟩ : ByteArray),.slice none 0 0,.slice none 0 0]) ?_ 0 _ rfl;(with_reducible repeat (first|apply blk_drewN|apply blk_drew|apply blk_alloc));exact BK516.out)) : gb516 ≠ gb518));have n11_:=Aside0.mk ((by rw [hg];exact Nat.ne_of_gt (blk_lt (g:=gb516) (o:=.cells #[.int .i64 t496,.bool t497,.int .i64 t498,.string t499,.slice Ao19 t500.length co19,.slice Ao20 t503.length co20] 29 (0,0)) (by (with_reducible repeat (first|apply blk_drewN|apply blk_drew|apply blk_alloc));refine blk_far ?_ NB516_517.out _;(with_reducible repeat (first|apply blk_drewN|apply blk_drew|apply blk_alloc));refine blk_far ?_ NB516_517.out _;(with_reducible repeat (first|apply blk_drewN|apply blk_drew|apply blk_alloc));refine blk_far ?_ NB516_517.out _;(with_reducible repeat (first|apply blk_drewN|apply blk_drew|apply blk_alloc));refine blk_far ?_ NB516_517.out _;(with_reducible repeat (first|apply blk_drewN|apply blk_drew|apply blk_alloc));refine blk_far ?_ NB516_517.out _;(with_reducible repeat (first|apply blk_drewN|apply blk_drew|apply blk_alloc));refine blk_far ?_ NB516_517.out _;(with_reducible repeat (first|apply blk_drewN|apply blk_drew|apply blk_alloc));refine blk_put (cs:=#[.int .i64 t496,.bool t497,.int .i64 t498,.string t499,.slice Ao19 t500.length co19,.slice none 0 0]) ?_ 5 _ rfl;(with_reducible repeat (first|apply blk_drewN|apply blk_drew|apply blk_alloc));refine blk_put (cs:=#[.int .i64 t496,.bool t497,.int .i64 t498,.string t499,.slice none 0 0,.slice none 0 0]) ?_ 4 _ rfl;(with_reducible repeat (first|apply blk_drewN|apply blk_drew|apply blk_alloc));refine blk_put (cs:=#[.int .i64 t496,.bool t497,.int .i64 t498,.string (⟨#[]⟩ : ByteArray),.slice none 0 0,.slice none 0 0]) ?_ 3 _ rfl;(with_reducible repeat (first|apply blk_drewN|apply blk_drew|apply blk_alloc));refine blk_put (cs:=#[.int .i64 t496,.bool t497,.int .i64 0,.string (⟨#[]⟩ : ByteArray),.slice none 0 0,.slice none 0 0]) ?_ 2 _ rfl;(with_reducible repeat (first|apply blk_drewN|apply blk_drew|apply blk_alloc));refine blk_put (cs:=#[.int .i64 t496,.bool false,.int .i64 0,.string (⟨#[]⟩ : ByteArray),.slice none 0 0,.slice none 0 0]) ?_ 1 _ rfl;(with_reducible repeat (first|apply blk_drewN|apply blk_drew|apply blk_alloc));refine blk_put (cs:=#[.int .i64 0,.bool false,.int .i64 0,.string (⟨#[]⟩ : ByteArray),.slice none 0 0,.slice none 0 0]) ?_ 0 _ rfl;(with_reducible repeat (first|apply blk_drewN|apply blk_drew|apply blk_alloc));exact BK516.out)) : gb518 ≠ gb516));have n12_:=Aside0.mk ((by rw [hg];exact Nat.ne_of_lt (blk_lt (g:=gb517) (o:=.cells #[.int .i64 t506,.bool t507,.int .i64 t508,.string t509,.slice Ao22 t510.length co22,.slice Ao23 t513.length co23] 33 (0,0)) (by (with_reducible repeat (first|apply blk_drewN|apply blk_drew|apply blk_alloc));refine blk_put (cs:=#[.int .i64 t506,.bool t507,.int .i64 t508,.string t509,.slice Ao22 t510.length co22,.slice none 0 0]) ?_ 5 _ rfl;(with_reducible repeat (first|apply blk_drewN|apply blk_drew|apply blk_alloc));refine blk_put (cs:=#[.int .i64 t506,.bool t507,.int .i64 t508,.string t509,.slice none 0 0,.slice none 0 0]) ?_ 4 _ rfl;(with_reducible repeat (first|apply blk_drewN|apply blk_drew|apply blk_alloc));refine blk_put (cs:=#[.int .i64 t506,.bool t507,.int .i64 t508,.string (⟨#[]⟩ : ByteArray),.slice none 0 0,.slice none 0 0]) ?_ 3 _ rfl;(with_reducible repeat (first|apply blk_drewN|apply blk_drew|apply blk_alloc));refine blk_put (cs:=#[.int .i64 t506,.bool t507,.int .i64 0,.string (⟨#[]⟩ : ByteArray),.slice none 0 0,.slice none 0 0]) ?_ 2 _ rfl;(with_reducible repeat (first|apply blk_drewN|apply blk_drew|apply blk_alloc));refine blk_put (cs:=#[.int .i64 t506,.bool false,.int .i64 0,.string (⟨#[]⟩ : ByteArray),.slice none 0 0,.slice none 0 0]) ?_ 1 _ rfl;(with_reducible repeat (first|apply blk_drewN|apply blk_drew|apply blk_alloc));refine blk_put (cs:=#[.int .i64 0,.bool false,.int .i64 0,.string (⟨#[]⟩ : ByteArray),.slice none 0 0,.slice none 0 0]) ?_ 0 _ rfl;(with_reducible repeat (first|apply blk_drewN|apply blk_drew|apply blk_alloc));refine blk_far ?_ NB517_516.out _;(with_reducible repeat (first|apply blk_drewN|apply blk_drew|apply blk_alloc));refine blk_far ?_ NB517_516.out _;(with_reducible repeat (first|apply blk_drewN|apply blk_drew|apply blk_alloc));refine blk_far ?_ NB517_516.out _;(with_reducible repeat (first|apply blk_drewN|apply blk_drew|apply blk_alloc));refine blk_far ?_ NB517_516.out _;(with_reducible repeat (first|apply blk_drewN|apply blk_drew|apply blk_alloc));refine blk_far ?_ NB517_516.out _;(with_reducible repeat (first|apply blk_drewN|apply blk_drew|apply blk_alloc));refine blk_far ?_ NB517_516.out _;(with_reducible repeat (first|apply blk_drewN|apply blk_drew|apply blk_alloc));exact BK517.out)) : gb517 ≠ gb518));have n13_:=Aside0.mk ((by rw [hg];exact Nat.ne_of_gt (blk_lt (g:=gb517) (o:=.cells #[.int .i64 t506,.bool t507,.int .i64 t508,.string t509,.slice Ao22 t510.length co22,.slice Ao23 t513.length co23] 33 (0,0)) (by (with_reducible repeat (first|apply blk_drewN|apply blk_drew|apply blk_alloc));refine blk_put (cs:=#[.int .i64 t506,.bool t507,.int .i64 t508,.string t509,.slice Ao22 t510.length co22,.slice none 0 0]) ?_ 5 _ rfl;(with_reducible repeat (first|apply blk_drewN|apply blk_drew|apply blk_alloc));refine blk_put (cs:=#[.int .i64 t506,.bool t507,.int .i64 t508,.string t509,.slice none 0 0,.slice none 0 0]) ?_ 4 _ rfl;(with_reducible repeat (first|apply blk_drewN|apply blk_drew|apply blk_alloc));refine blk_put (cs:=#[.int .i64 t506,.bool t507,.int .i64 t508,.string (⟨#[]⟩ : ByteArray),.slice none 0 0,.slice none 0 0]) ?_ 3 _ rfl;(with_reducible repeat (first|apply blk_drewN|apply blk_drew|apply blk_alloc));refine blk_put (cs:=#[.int .i64 t506,.bool t507,.int .i64 0,.string (⟨#[]⟩ : ByteArray),.slice none 0 0,.slice none 0 0]) ?_ 2 _ rfl;(with_reducible repeat (first|apply blk_drewN|apply blk_drew|apply blk_alloc));refine blk_put (cs:=#[.int .i64 t506,.bool false,.int .i64 0,.string (⟨#[]⟩ : ByteArray),.slice none 0 0,.slice none 0 0]) ?_ 1 _ rfl;(with_reducible repeat (first|apply blk_drewN|apply blk_drew|apply blk_alloc));refine blk_put (cs:=#[.int .i64 0,.bool false,.int .i64 0,.string (⟨#[]⟩ : ByteArray),.slice none 0 0,.slice none 0 0]) ?_ 0 _ rfl;(with_reducible repeat (first|apply blk_drewN|apply blk_drew|apply blk_alloc));refine blk_far ?_ NB517_516.out _;(with_reducible repeat (first|apply blk_drewN|apply blk_drew|apply blk_alloc));refine blk_far ?_ NB517_516.out _;(with_reducible repeat (first|apply blk_drewN|apply blk_drew|apply blk_alloc));refine blk_far ?_ NB517_516.out _;(with_reducible repeat (first|apply blk_drewN|apply blk_drew|apply blk_alloc));refine blk_far ?_ NB517_516.out _;(with_reducible repeat (first|apply blk_drewN|apply blk_drew|apply blk_alloc));refine blk_far ?_ NB517_516.out _;(with_reducible repeat (first|apply blk_drewN|apply blk_drew|apply blk_alloc));refine blk_far ?_ NB517_516.out _;(with_reducible repeat (first|apply blk_drewN|apply blk_drew|apply blk_alloc));exact BK517.out)) : gb518 ≠ gb517));clear HO502;clear HO505;clear HO512;clear HO515;clear BK516;clear BK517;clear HB;have HO502:=n0_;have HO505:=n1_;have HO512:=n2_;have HO515:=n3_;have BK516:=n4_;have BK517:=n5_;have HB:=n6_;have BK518:=n7_;have GW518:=n8_;have GE518:=n9_;have NB516_518:=n10_;have NB518_516:=n11_;have NB517_518:=n12_;have NB518_517:=n13_;clear n0_ n1_ n2_ n3_ n4_ n5_ n6_ n7_ n8_ n9_ n10_ n11_ n12_ n13_;clear hb hbox hg;have hnb25:=NB518_516.out;have hnc25:=NB516_518.out;have hnb26:=NB518_517.out;have hnc26:=NB517_518.out;have hcz27_0 : w24.cell? ⟨gb518,0,none⟩ = some (.int .i64 0):=(blk_cell BK518.out 0).trans rfl;have hcz27_1 : w24.cell? ⟨gb518,1,none⟩ = some (.bool false):=(blk_cell BK518.out 1).trans rfl;have hcz27_2 : w24.cell? ⟨gb518,2,none⟩ = some (.int .i64 0):=(blk_cell BK518.out 2).trans rfl;have hcz27_3 : w24.cell? ⟨gb518,3,none⟩ = some (.string (⟨#[]⟩ : ByteArray)):=(blk_cell BK518.out 3).trans rfl;have hcz27_4 : w24.cell? ⟨gb518,4,none⟩ = some (.slice none 0 0):=(blk_cell BK518.out 4).trans rfl;have hcz27_5 : w24.cell? ⟨gb518,5,none⟩ = some (.slice none 0 0):=(blk_cell BK518.out 5).trans rfl;have hfz27_0:=blk_frozen BK518.out 0;have hfz27_1:=blk_frozen BK518.out 1;have hfz27_2:=blk_frozen BK518.out 2;have hfz27_3:=blk_frozen BK518.out 3;have hfz27_4:=blk_frozen BK518.out 4;have hfz27_5:=blk_frozen BK518.out 5))
    (try simp only [Act.put,List.setIfInBounds_toArray,List.set_cons_zero,List.set_cons_succ])
    go_cut [] (fun wc=>∃ (kq : Nat) (x519003_12 : ByteArray),Aside0 (bosunlaw05_ValueAlike.j1 kq a2 t496 t497 t498 t499 t500 t503 t496 t497 t498 x519003_12 t500 t503 = some r) ∧ Aside0 (kq ≤ kj3) ∧ Aside0 (Kd.V k29 29 wc w.heap.size (fun k_=>k_ ≠ gb516 ∧ k_ ≠ gb517 ∧ k_ ≠ gb518) (.slice Ao19 t500.length co19) t500) ∧ Aside0 (Kd.V k48 48 wc w.heap.size (fun k_=>k_ ≠ gb516 ∧ k_ ≠ gb517 ∧ k_ ≠ gb518) (.slice Ao20 t503.length co20) t503) ∧ Aside0 (Kd.V k33 33 wc w.heap.size (fun k_=>k_ ≠ gb516 ∧ k_ ≠ gb517 ∧ k_ ≠ gb518) (.slice Ao22 t510.length co22) t510) ∧ Aside0 (Kd.V k50 50 wc w.heap.size (fun k_=>k_ ≠ gb516 ∧ k_ ≠ gb517 ∧ k_ ≠ gb518) (.slice Ao23 t513.length co23) t513) ∧ Aside0 (Kd.V k29 29 wc w.heap.size (fun k_=>k_ ≠ gb516 ∧ k_ ≠ gb517 ∧ k_ ≠ gb518) (.slice Ao19 t500.length co19) t500) ∧ Aside0 (Kd.V k48 48 wc w.heap.size (fun k_=>k_ ≠ gb516 ∧ k_ ≠ gb517 ∧ k_ ≠ gb518) (.slice Ao20 t503.length co20) t503) ∧ Aside0 (wc.heap[gb516]? = some (.cells #[.int .i64 t496,.bool t497,.int .i64 t498,.string t499,(.slice Ao19 t500.length co19),(.slice Ao20 t503.length co20)] 29 (0,0))) ∧ Aside0 (wc.heap[gb517]? = some (.cells #[.int .i64 t506,.bool t507,.int .i64 t508,.string t509,(.slice Ao22 t510.length co22),(.slice Ao23 t513.length co23)] 33 (0,0))) ∧ Aside0 (wc.heap[gb518]? = some (.cells #[.int .i64 t496,.bool t497,.int .i64 t498,.string x519003_12,(.slice Ao19 t500.length co19),(.slice Ao20 t503.length co20)] 29 (0,0))) ∧ Aside0 (Below w.heap.size w wc))
    case first =>
     have H:=HC13.out
     clear HC13
     by_cases c28 : t496 = 3
     ·rw [if_pos c28] at H
      have c28b0 : (t496 == 3) = true:=beq_iff_eq.mpr c28
      have c28b1 : (t496 != 3) = false:=bne_eq_false_iff_eq.mpr c28
      clear c28
      (first|rw [c28b0]|(simp only [i64_w,i32_w];rw [c28b0])|skip)
      have H':=Aside0.mk H
      clear H
      go_wp2
      go_meet
      case rel=>exact ⟨_,(t499),H',⟨by have:=HJ3.out;first|omega|exact Nat.le_refl _⟩,⟨by (with_reducible repeat (first|apply Kd.V_alloc|apply Kd.V_drewN|apply Kd.V_drew));exact Kd.V_mono (Kd.V_far (p:=⟨gb518,5,none⟩) (Kd.V_far (p:=⟨gb518,4,none⟩) (Kd.V_far (p:=⟨gb518,3,none⟩) (Kd.V_far (p:=⟨gb518,2,none⟩) (Kd.V_far (p:=⟨gb518,1,none⟩) (Kd.V_far (p:=⟨gb518,0,none⟩) (Kd.V_mono HO502.out (fun k_ hk=>(⟨hk,hk.2⟩ : _ ∧ k_ ≠ gb518))) (fun _ hk=>hk.2) (.int .i64 t496)) (fun _ hk=>hk.2) (.bool t497)) (fun _ hk=>hk.2) (.int .i64 t498)) (fun _ hk=>hk.2) (.string t499)) (fun _ hk=>hk.2) (.slice Ao19 t500.length co19)) (fun _ hk=>hk.2) (.slice Ao20 t503.length co20)) (fun _ hk=>⟨hk.1.1.1.2,⟨hk.1.1.2,hk.1.2⟩⟩)⟩,⟨by (with_reducible repeat (first|apply Kd.V_alloc|apply Kd.V_drewN|apply Kd.V_drew));exact Kd.V_mono (Kd.V_far (p:=⟨gb518,5,none⟩) (Kd.V_far (p:=⟨gb518,4,none⟩) (Kd.V_far (p:=⟨gb518,3,none⟩) (Kd.V_far (p:=⟨gb518,2,none⟩) (Kd.V_far (p:=⟨gb518,1,none⟩) (Kd.V_far (p:=⟨gb518,0,none⟩) (Kd.V_mono HO505.out (fun k_ hk=>(⟨hk,hk.2⟩ : _ ∧ k_ ≠ gb518))) (fun _ hk=>hk.2) (.int .i64 t496)) (fun _ hk=>hk.2) (.bool t497)) (fun _ hk=>hk.2) (.int .i64 t498)) (fun _ hk=>hk.2) (.string t499)) (fun _ hk=>hk.2) (.slice Ao19 t500.length co19)) (fun _ hk=>hk.2) (.slice Ao20 t503.length co20)) (fun _ hk=>⟨hk.1.1.1.2,⟨hk.1.1.2,hk.1.2⟩⟩)⟩,⟨by (with_reducible repeat (first|apply Kd.V_alloc|apply Kd.V_drewN|apply Kd.V_drew));exact Kd.V_mono (Kd.V_far (p:=⟨gb518,5,none⟩) (Kd.V_far (p:=⟨gb518,4,none⟩) (Kd.V_far (p:=⟨gb518,3,none⟩) (Kd.V_far (p:=⟨gb518,2,none⟩) (Kd.V_far (p:=⟨gb518,1,none⟩) (Kd.V_far (p:=⟨gb518,0,none⟩) (Kd.V_mono HO512.out (fun k_ hk=>(⟨hk,hk.2⟩ : _ ∧ k_ ≠ gb518))) (fun _ hk=>hk.2) (.int .i64 t496)) (fun _ hk=>hk.2) (.bool t497)) (fun _ hk=>hk.2) (.int .i64 t498)) (fun _ hk=>hk.2) (.string t499)) (fun _ hk=>hk.2) (.slice Ao19 t500.length co19)) (fun _ hk=>hk.2) (.slice Ao20 t503.length co20)) (fun _ hk=>⟨hk.1.1.1.2,⟨hk.1.1.2,hk.1.2⟩⟩)⟩,⟨by (with_reducible repeat (first|apply Kd.V_alloc|apply Kd.V_drewN|apply Kd.V_drew));exact Kd.V_mono (Kd.V_far (p:=⟨gb518,5,none⟩) (Kd.V_far (p:=⟨gb518,4,none⟩) (Kd.V_far (p:=⟨gb518,3,none⟩) (Kd.V_far (p:=⟨gb518,2,none⟩) (Kd.V_far (p:=⟨gb518,1,none⟩) (Kd.V_far (p:=⟨gb518,0,none⟩) (Kd.V_mono HO515.out (fun k_ hk=>(⟨hk,hk.2⟩ : _ ∧ k_ ≠ gb518))) (fun _ hk=>hk.2) (.int .i64 t496)) (fun _ hk=>hk.2) (.bool t497)) (fun _ hk=>hk.2) (.int .i64 t498)) (fun _ hk=>hk.2) (.string t499)) (fun _ hk=>hk.2) (.slice Ao19 t500.length co19)) (fun _ hk=>hk.2) (.slice Ao20 t503.length co20)) (fun _ hk=>⟨hk.1.1.1.2,⟨hk.1.1.2,hk.1.2⟩⟩)⟩,⟨by (with_reducible repeat (first|apply Kd.V_alloc|apply Kd.V_drewN|apply Kd.V_drew));exact Kd.V_mono (Kd.V_far (p:=⟨gb518,5,none⟩) (Kd.V_far (p:=⟨gb518,4,none⟩) (Kd.V_far (p:=⟨gb518,3,none⟩) (Kd.V_far (p:=⟨gb518,2,none⟩) (Kd.V_far (p:=⟨gb518,1,none⟩) (Kd.V_far (p:=⟨gb518,0,none⟩) (Kd.V_mono HO502.out (fun k_ hk=>(⟨hk,hk.2⟩ : _ ∧ k_ ≠ gb518))) (fun _ hk=>hk.2) (.int .i64 t496)) (fun _ hk=>hk.2) (.bool t497)) (fun _ hk=>hk.2) (.int .i64 t498)) (fun _ hk=>hk.2) (.string t499)) (fun _ hk=>hk.2) (.slice Ao19 t500.length co19)) (fun _ hk=>hk.2) (.slice Ao20 t503.length co20)) (fun _ hk=>⟨hk.1.1.1.2,⟨hk.1.1.2,hk.1.2⟩⟩)⟩,⟨by (with_reducible repeat (first|apply Kd.V_alloc|apply Kd.V_drewN|apply Kd.V_drew));exact Kd.V_mono (Kd.V_far (p:=⟨gb518,5,none⟩) (Kd.V_far (p:=⟨gb518,4,none⟩) (Kd.V_far (p:=⟨gb518,3,none⟩) (Kd.V_far (p:=⟨gb518,2,none⟩) (Kd.V_far (p:=⟨gb518,1,none⟩) (Kd.V_far (p:=⟨gb518,0,none⟩) (Kd.V_mono HO505.out (fun k_ hk=>(⟨hk,hk.2⟩ : _ ∧ k_ ≠ gb518))) (fun _ hk=>hk.2) (.int .i64 t496)) (fun _ hk=>hk.2) (.bool t497)) (fun _ hk=>hk.2) (.int .i64 t498)) (fun _ hk=>hk.2) (.string t499)) (fun _ hk=>hk.2) (.slice Ao19 t500.length co19)) (fun _ hk=>hk.2) (.slice Ao20 t503.length co20)) (fun _ hk=>⟨hk.1.1.1.2,⟨hk.1.1.2,hk.1.2⟩⟩)⟩,⟨by (with_reducible repeat (first|apply blk_drewN|apply blk_drew|apply blk_alloc));refine blk_far ?_ NB516_518.out _;(with_reducible repeat (first|apply blk_drewN|apply blk_drew|apply blk_alloc));refine blk_far ?_ NB516_518.out _;(with_reducible repeat (first|apply blk_drewN|apply blk_drew|apply blk_alloc));refine blk_far ?_ NB516_518.out _;(with_reducible repeat (first|apply blk_drewN|apply blk_drew|apply blk_alloc));refine blk_far ?_ NB516_518.out _;(with_reducible repeat (first|apply blk_drewN|apply blk_drew|apply blk_alloc));refine blk_far ?_ NB516_518.out _;(with_reducible repeat (first|apply blk_drewN|apply blk_drew|apply blk_alloc));refine blk_far ?_ NB516_518.out _;(with_reducible repeat (first|apply blk_drewN|apply blk_drew|apply blk_alloc));exact BK516.out⟩,⟨by (with_reducible repeat (first|apply blk_drewN|apply blk_drew|apply blk_alloc));refine blk_far ?_ NB517_518.out _;(with_reducible repeat (first|apply blk_drewN|apply blk_drew|apply blk_alloc));refine blk_far ?_ NB517_518.out _;(with_reducible repeat (first|apply blk_drewN|apply blk_drew|apply blk_alloc));refine blk_far ?_ NB517_518.out _;(with_reducible repeat (first|apply blk_drewN|apply blk_drew|apply blk_alloc));refine blk_far ?_ NB517_518.out _;(with_reducible repeat (first|apply blk_drewN|apply blk_drew|apply blk_alloc));refine blk_far ?_ NB517_518.out _;(with_reducible repeat (first|apply blk_drewN|apply blk_drew|apply blk_alloc));refine blk_far ?_ NB517_518.out _;(with_reducible repeat (first|apply blk_drewN|apply blk_drew|apply blk_alloc));exact BK517.out⟩,⟨by (with_reducible repeat (first|apply blk_drewN|apply blk_drew|apply blk_alloc));refine blk_put (cs:=#[.int .i64 t496,.bool t497,.int .i64 t498,.string t499,.slice Ao19 t500.length co19,.slice none 0 0]) ?_ 5 _ rfl;(with_reducible repeat (first|apply blk_drewN|apply blk_drew|apply blk_alloc));refine blk_put (cs:=#[.int .i64 t496,.bool t497,.int .i64 t498,.string t499,.slice none 0 0,.slice none 0 0]) ?_ 4 _ rfl;(with_reducible repeat (first|apply blk_drewN|apply blk_drew|apply blk_alloc));refine blk_put (cs:=#[.int .i64 t496,.bool t497,.int .i64 t498,.string (⟨#[]⟩ : ByteArray),.slice none 0 0,.slice none 0 0]) ?_ 3 _ rfl;(with_reducible repeat (first|apply blk_drewN|apply blk_drew|apply blk_alloc));refine blk_put (cs:=#[.int .i64 t496,.bool t497,.int .i64 0,.string (⟨#[]⟩ : ByteArray),.slice none 0 0,.slice none 0 0]) ?_ 2 _ rfl;(with_reducible repeat (first|apply blk_drewN|apply blk_drew|apply blk_alloc));refine blk_put (cs:=#[.int .i64 t496,.bool false,.int .i64 0,.string (⟨#[]⟩ : ByteArray),.slice none 0 0,.slice none 0 0]) ?_ 1 _ rfl;(with_reducible repeat (first|apply blk_drewN|apply blk_drew|apply blk_alloc));refine blk_put (cs:=#[.int .i64 0,.bool false,.int .i64 0,.string (⟨#[]⟩ : ByteArray),.slice none 0 0,.slice none 0 0]) ?_ 0 _ rfl;(with_reducible repeat (first|apply blk_drewN|apply blk_drew|apply blk_alloc));exact BK518.out⟩,⟨by repeat (first|(with_reducible first|exact HB.out|apply below_alloc|apply pw_below_drewN|apply below_drew1|refine below_set ?_ GE516.out|refine below_set ?_ GE517.out|refine below_set ?_ GE518.out)|exact HB.out)⟩⟩
     ·rw [if_neg c28] at H
      have c28b0 : (t496 == 3) = false:=beq_eq_false_iff_ne.mpr c28
      have c28b1 : (t496 != 3) = true:=bne_iff_ne.mpr c28
      (first|rw [c28b0]|(simp only [i64_w,i32_w];rw [c28b0])|skip)
      have H':=Aside0.mk H
      clear H
      have hnb29:=NB518_516.out
      have hnc29:=NB516_518.out
      have hnb30:=NB518_517.out
      have hnc30:=NB517_518.out
      have hcz31_0 : w24.cell? ⟨gb518,0,none⟩ = some (.int .i64 0):=(blk_cell BK518.out 0).trans rfl
      have hcz31_1 : w24.cell? ⟨gb518,1,none⟩ = some (.bool false):=(blk_cell BK518.out 1).trans rfl
      have hcz31_2 : w24.cell? ⟨gb518,2,none⟩ = some (.int .i64 0):=(blk_cell BK518.out 2).trans rfl
      have hcz31_3 : w24.cell? ⟨gb518,3,none⟩ = some (.string (⟨#[]⟩ : ByteArray)):=(blk_cell BK518.out 3).trans rfl
      have hcz31_4 : w24.cell? ⟨gb518,4,none⟩ = some (.slice none 0 0):=(blk_cell BK518.out 4).trans rfl
      have hcz31_5 : w24.cell? ⟨gb518,5,none⟩ = some (.slice none 0 0):=(blk_cell BK518.out 5).trans rfl
      have hfz31_0:=blk_frozen BK518.out 0
      have hfz31_1:=blk_frozen BK518.out 1
      have hfz31_2:=blk_frozen BK518.out 2
      have hfz31_3:=blk_frozen BK518.out 3
      have hfz31_4:=blk_frozen BK518.out 4
      have hfz31_5:=blk_frozen BK518.out 5
      go_wp2
      go_meet
      case rel=>exact ⟨_,(a1),H',⟨by have:=HJ3.out;first|omega|exact Nat.le_refl _⟩,⟨by (with_reducible repeat (first|apply Kd.V_alloc|apply Kd.V_drewN|apply Kd.V_drew));exact Kd.V_mono (Kd.V_far (p:=⟨gb518,3,none⟩) (Kd.V_far (p:=⟨gb518,5,none⟩) (Kd.V_far (p:=⟨gb518,4,none⟩) (Kd.V_far (p:=⟨gb518,3,none⟩) (Kd.V_far (p:=⟨gb518,2,none⟩) (Kd.V_far (p:=⟨gb518,1,none⟩) (Kd.V_far (p:=⟨gb518,0,none⟩) (Kd.V_mono HO502.out (fun k_ hk=>(⟨hk,hk.2⟩ : _ ∧ k_ ≠ gb518))) (fun _ hk=>hk.2) (.int .i64 t496)) (fun _ hk=>hk.2) (.bool t497)) (fun _ hk=>hk.2) (.int .i64 t498)) (fun _ hk=>hk.2) (.string t499)) (fun _ hk=>hk.2) (.slice Ao19 t500.length co19)) (fun _ hk=>hk.2) (.slice Ao20 t503.length co20)) (fun _ hk=>hk.2) (.string a1)) (fun _ hk=>⟨hk.1.1.1.2,⟨hk.1.1.2,hk.1.2⟩⟩)⟩,⟨by (with_reducible repeat (first|apply Kd.V_alloc|apply Kd.V_drewN|apply Kd.V_drew));exact Kd.V_mono (Kd.V_far (p:=⟨gb518,3,none⟩) (Kd.V_far (p:=⟨gb518,5,none⟩) (Kd.V_far (p:=⟨gb518,4,none⟩) (Kd.V_far (p:=⟨gb518,3,none⟩) (Kd.V_far (p:=⟨gb518,2,none⟩) (Kd.V_far (p:=⟨gb518,1,none⟩) (Kd.V_far (p:=⟨gb518,0,none⟩) (Kd.V_mono HO505.out (fun k_ hk=>(⟨hk,hk.2⟩ : _ ∧ k_ ≠ gb518))) (fun _ hk=>hk.2) (.int .i64 t496)) (fun _ hk=>hk.2) (.bool t497)) (fun _ hk=>hk.2) (.int .i64 t498)) (fun _ hk=>hk.2) (.string t499)) (fun _ hk=>hk.2) (.slice Ao19 t500.length co19)) (fun _ hk=>hk.2) (.slice Ao20 t503.length co20)) (fun _ hk=>hk.2) (.string a1)) (fun _ hk=>⟨hk.1.1.1.2,⟨hk.1.1.2,hk.1.2⟩⟩)⟩,⟨by (with_reducible repeat (first|apply Kd.V_alloc|apply Kd.V_drewN|apply Kd.V_drew));exact Kd.V_mono (Kd.V_far (p:=⟨gb518,3,none⟩) (Kd.V_far (p:=⟨gb518,5,none⟩) (Kd.V_far (p:=⟨gb518,4,none⟩) (Kd.V_far (p:=⟨gb518,3,none⟩) (Kd.V_far (p:=⟨gb518,2,none⟩) (Kd.V_far (p:=⟨gb518,1,none⟩) (Kd.V_far (p:=⟨gb518,0,none⟩) (Kd.V_mono HO512.out (fun k_ hk=>(⟨hk,hk.2⟩ : _ ∧ k_ ≠ gb518))) (fun _ hk=>hk.2) (.int .i64 t496)) (fun _ hk=>hk.2) (.bool t497)) (fun _ hk=>hk.2) (.int .i64 t498)) (fun _ hk=>hk.2) (.string t499)) (fun _ hk=>hk.2) (.slice Ao19 t500.length co19)) (fun _ hk=>hk.2) (.slice Ao20 t503.length co20)) (fun _ hk=>hk.2) (.string a1)) (fun _ hk=>⟨hk.1.1.1.2,⟨hk.1.1.2,hk.1.2⟩⟩)⟩,⟨by (with_reducible repeat (first|apply Kd.V_alloc|apply Kd.V_drewN|apply Kd.V_drew));exact Kd.V_mono (Kd.V_far (p:=⟨gb518,3,none⟩) (Kd.V_far (p:=⟨gb518,5,none⟩) (Kd.V_far (p:=⟨gb518,4,none⟩) (Kd.V_far (p:=⟨gb518,3,none⟩) (Kd.V_far (p:=⟨gb518,2,none⟩) (Kd.V_far (p:=⟨gb518,1,none⟩) (Kd.V_far (p:=⟨gb518,0,none⟩) (Kd.V_mono HO515.out (fun k_ hk=>(⟨hk,hk.2⟩ : _ ∧ k_ ≠ gb518))) (fun _ hk=>hk.2) (.int .i64 t496)) (fun _ hk=>hk.2) (.bool t497)) (fun _ hk=>hk.2) (.int .i64 t498)) (fun _ hk=>hk.2) (.string t499)) (fun _ hk=>hk.2) (.slice Ao19 t500.length co19)) (fun _ hk=>hk.2) (.slice Ao20 t503.length co20)) (fun _ hk=>hk.2) (.string a1)) (fun _ hk=>⟨hk.1.1.1.2,⟨hk.1.1.2,hk.1.2⟩⟩)⟩,⟨by (with_reducible repeat (first|apply Kd.V_alloc|apply Kd.V_drewN|apply Kd.V_drew));exact Kd.V_mono (Kd.V_far (p:=⟨gb518,3,none⟩) (Kd.V_far (p:=⟨gb518,5,none⟩) (Kd.V_far (p:=⟨gb518,4,none⟩) (Kd.V_far (p:=⟨gb518,3,none⟩) (Kd.V_far (p:=⟨gb518,2,none⟩) (Kd.V_far (p:=⟨gb518,1,none⟩) (Kd.V_far (p:=⟨gb518,0,none⟩) (Kd.V_mono HO502.out (fun k_ hk=>(⟨hk,hk.2⟩ : _ ∧ k_ ≠ gb518))) (fun _ hk=>hk.2) (.int .i64 t496)) (fun _ hk=>hk.2) (.bool t497)) (fun _ hk=>hk.2) (.int .i64 t498)) (fun _ hk=>hk.2) (.string t499)) (fun _ hk=>hk.2) (.slice Ao19 t500.length co19)) (fun _ hk=>hk.2) (.slice Ao20 t503.length co20)) (fun _ hk=>hk.2) (.string a1)) (fun _ hk=>⟨hk.1.1.1.2,⟨hk.1.1.2,hk.1.2⟩⟩)⟩,⟨by (with_reducible repeat (first|apply Kd.V_alloc|apply Kd.V_drewN|apply Kd.V_drew));exact Kd.V_mono (Kd.V_far (p:=⟨gb518,3,none⟩) (Kd.V_far (p:=⟨gb518,5,none⟩) (Kd.V_far (p:=⟨gb518,4,none⟩) (Kd.V_far (p:=⟨gb518,3,none⟩) (Kd.V_far (p:=⟨gb518,2,none⟩) (Kd.V_far (p:=⟨gb518,1,none⟩) (Kd.V_far (p:=⟨gb518,0,none⟩) (Kd.V_mono HO505.out (fun k_ hk=>(⟨hk,hk.2⟩ : _ ∧ k_ ≠ gb518))) (fun _ hk=>hk.2) (.int .i64 t496)) (fun _ hk=>hk.2) (.bool t497)) (fun _ hk=>hk.2) (.int .i64 t498)) (fun _ hk=>hk.2) (.string t499)) (fun _ hk=>hk.2) (.slice Ao19 t500.length co19)) (fun _ hk=>hk.2) (.slice Ao20 t503.length co20)) (fun _ hk=>hk.2) (.string a1)) (fun _ hk=>⟨hk.1.1.1.2,⟨hk.1.1.2,hk.1.2⟩⟩)⟩,⟨by (with_reducible repeat (first|apply blk_drewN|apply blk_drew|apply blk_alloc));refine blk_far ?_ NB516_518.out _;(with_reducible repeat (first|apply blk_drewN|apply blk_drew|apply blk_alloc));refine blk_far ?_ NB516_518.out _;(with_reducible repeat (first|apply blk_drewN|apply blk_drew|apply blk_alloc));refine blk_far ?_ NB516_518.out _;(with_reducible repeat (first|apply blk_drewN|apply blk_drew|apply blk_alloc));refine blk_far ?_ NB516_518.out _;(with_reducible repeat (first|apply blk_drewN|apply blk_drew|apply blk_alloc));refine blk_far ?_ NB516_518.out _;(with_reducible repeat (first|apply blk_drewN|apply blk_drew|apply blk_alloc));refine blk_far ?_ NB516_518.out _;(with_reducible repeat (first|apply blk_drewN|apply blk_drew|apply blk_alloc));refine blk_far ?_ NB516_518.out _;(with_reducible repeat (first|apply blk_drewN|apply blk_drew|apply blk_alloc));exact BK516.out⟩,⟨by (with_reducible repeat (first|apply blk_drewN|apply blk_drew|apply blk_alloc));refine blk_far ?_ NB517_518.out _;(with_reducible repeat (first|apply blk_drewN|apply blk_drew|apply blk_alloc));refine blk_far ?_ NB517_518.out _;(with_reducible repeat (first|apply blk_drewN|apply blk_drew|apply blk_alloc));refine blk_far ?_ NB517_518.out _;(with_reducible repeat (first|apply blk_drewN|apply blk_drew|apply blk_alloc));refine blk_far ?_ NB517_518.out _;(with_reducible repeat (first|apply blk_drewN|apply blk_drew|apply blk_alloc));refine blk_far ?_ NB517_518.out _;(with_reducible repeat (first|apply blk_drewN|apply blk_drew|apply blk_alloc));refine blk_far ?_ NB517_518.out _;(with_reducible repeat (first|apply blk_drewN|apply blk_drew|apply blk_alloc));refine blk_far ?_ NB517_518.out _;(with_reducible repeat (first|apply blk_drewN|apply blk_drew|apply blk_alloc));exact BK517.out⟩,⟨by (with_reducible repeat (first|apply blk_drewN|apply blk_drew|apply blk_alloc));refine blk_put (cs:=#[.int .i64 t496,.bool t497,.int .i64 t498,.string t499,.slice Ao19 t500.length co19,.slice Ao20 t503.length co20]) ?_ 3 _ rfl;(with_reducible repeat (first|apply blk_drewN|apply blk_drew|apply blk_alloc));refine blk_put (cs:=#[.int .i64 t496,.bool t497,.int .i64 t498,.string t499,.slice Ao19 t500.length co19,.slice none 0 0]) ?_ 5 _ rfl;(with_reducible repeat (first|apply blk_drewN|apply blk_drew|apply blk_alloc));refine blk_put (cs:=#[.int .i64 t496,.bool t497,.int .i64 t498,.string t499,.slice none 0 0,.slice none 0 0]) ?_ 4 _ rfl;(with_reducible repeat (first|apply blk_drewN|apply blk_drew|apply blk_alloc));refine blk_put (cs:=#[.int .i64 t496,.bool t497,.int .i64 t498,.string (⟨#[]⟩ : ByteArray),.slice none 0 0,.slice none 0 0]) ?_ 3 _ rfl;(with_reducible repeat (first|apply blk_drewN|apply blk_drew|apply blk_alloc));refine blk_put (cs:=#[.int .i64 t496,.bool t497,.int .i64 0,.string (⟨#[]⟩ : ByteArray),.slice none 0 0,.slice none 0 0]) ?_ 2 _ rfl;(with_reducible repeat (first|apply blk_drewN|apply blk_drew|apply blk_alloc));refine blk_put (cs:=#[.int .i64 t496,.bool false,.int .i64 0,.string (⟨#[]⟩ : ByteArray),.slice none 0 0,.slice none 0 0]) ?_ 1 _ rfl;(with_reducible repeat (first|apply blk_drewN|apply blk_drew|apply blk_alloc));refine blk_put (cs:=#[.int .i64 0,.bool false,.int .i64 0,.string (⟨#[]⟩ : ByteArray),.slice none 0 0,.slice none 0 0]) ?_ 0 _ rfl;(with_reducible repeat (first|apply blk_drewN|apply blk_drew|apply blk_alloc));exact BK518.out⟩,⟨by repeat (first|(with_reducible first|exact HB.out|apply below_alloc|apply pw_below_drewN|apply below_drew1|refine below_set ?_ GE516.out|refine below_set ?_ GE517.out|refine below_set ?_ GE518.out)|exact HB.out)⟩⟩
    case rest =>
     clear HC13
     try clear c1
     try clear c2
     try clear p2
     try clear c3
     try clear c5
     try clear c6
     try clear c8
     try clear c9
     try clear c10
     try clear c17
     try clear c25
     try clear c26
     try clear c28
     try clear c28b0
     try clear c28b1
     try clear c29
     try clear c30
     try clear hcz18_0
     try clear hcz18_1
     try clear hcz18_2
     try clear hcz18_3
     try clear hcz18_4
     try clear hcz18_5
     try clear hcz21_0
     try clear hcz21_1
     try clear hcz21_2
     try clear hcz21_3
     try clear hcz21_4
     try clear hcz21_5
     try clear hcz27_0
     try clear hcz27_1
     try clear hcz27_2
     try clear hcz27_3
     try clear hcz27_4
     try clear hcz27_5
     try clear hcz31_0
     try clear hcz31_1
     try clear hcz31_2
     try clear hcz31_3
     try clear hcz31_4
     try clear hcz31_5
     try clear hfz18_0
     try clear hfz18_1
     try clear hfz18_2
     try clear hfz18_3
     try clear hfz18_4
     try clear hfz18_5
     try clear hfz21_0
     try clear hfz21_1
     try clear hfz21_2
     try clear hfz21_3
     try clear hfz21_4
     try clear hfz21_5
     try clear hfz27_0
     try clear hfz27_1
     try clear hfz27_2
     try clear hfz27_3
     try clear hfz27_4
     try clear hfz27_5
     try clear hfz31_0
     try clear hfz31_1
     try clear hfz31_2
     try clear hfz31_3
     try clear hfz31_4
     try clear hfz31_5
     try clear p2
     obtain ⟨kq,x519003_12,HA,HJ12,HO_517004,HO_517005,HO_518004,HO_518005,HO_519004,HO_519005,BK516,BK517,BK518,HB⟩:=hcut
     cases kq with
     | zero=>exact absurd HA.out (by simp [bosunlaw05_ValueAlike.j1])
     | succ kj12 =>
      have H:=HA.out
      clear HA
      simp only [bosunlaw05_ValueAlike.j1] at H
      have HC32:=Aside0.mk H
      clear H
      have hnb33:=NB518_516.out
      have hnc33:=NB516_518.out
      have hnb34:=NB518_517.out
      have hnc34:=NB517_518.out
      have hcz35_0 : wc.cell? ⟨gb518,0,none⟩ = some (.int .i64 t496):=(blk_cell BK518.out 0).trans rfl
      have hcz35_1 : wc.cell? ⟨gb518,1,none⟩ = some (.bool t497):=(blk_cell BK518.out 1).trans rfl
      have hcz35_2 : wc.cell? ⟨gb518,2,none⟩ = some (.int .i64 t498):=(blk_cell BK518.out 2).trans rfl
      have hcz35_3 : wc.cell? ⟨gb518,3,none⟩ = some (.string x519003_12):=(blk_cell BK518.out 3).trans rfl
      have hcz35_4 : wc.cell? ⟨gb518,4,none⟩ = some (.slice Ao19 t500.length co19):=(blk_cell BK518.out 4).trans rfl
      have hcz35_5 : wc.cell? ⟨gb518,5,none⟩ = some (.slice Ao20 t503.length co20):=(blk_cell BK518.out 5).trans rfl
      have hfz35_0:=blk_frozen BK518.out 0
      have hfz35_1:=blk_frozen BK518.out 1
      have hfz35_2:=blk_frozen BK518.out 2
      have hfz35_3:=blk_frozen BK518.out 3
      have hfz35_4:=blk_frozen BK518.out 4
      have hfz35_5:=blk_frozen BK518.out 5
      go_upto_if 32 with (fail)
      go_cut [] (fun wc=>∃ (kq : Nat) (x519002_31 : Int),Aside0 (bosunlaw05_ValueAlike.j2 kq t496 t497 t498 t499 t500 t503 t496 t497 x519002_31 x519003_12 t500 t503 = some r) ∧ Aside0 (kq ≤ kj12) ∧ Aside0 (Kd.V k29 29 wc w.heap.size (fun k_=>k_ ≠ gb516 ∧ k_ ≠ gb517 ∧ k_ ≠ gb518) (.slice Ao19 t500.length co19) t500) ∧ Aside0 (Kd.V k48 48 wc w.heap.size (fun k_=>k_ ≠ gb516 ∧ k_ ≠ gb517 ∧ k_ ≠ gb518) (.slice Ao20 t503.length co20) t503) ∧ Aside0 (Kd.V k33 33 wc w.heap.size (fun k_=>k_ ≠ gb516 ∧ k_ ≠ gb517 ∧ k_ ≠ gb518) (.slice Ao22 t510.length co22) t510) ∧ Aside0 (Kd.V k50 50 wc w.heap.size (fun k_=>k_ ≠ gb516 ∧ k_ ≠ gb517 ∧ k_ ≠ gb518) (.slice Ao23 t513.length co23) t513) ∧ Aside0 (Kd.V k29 29 wc w.heap.size (fun k_=>k_ ≠ gb516 ∧ k_ ≠ gb517 ∧ k_ ≠ gb518) (.slice Ao19 t500.length co19) t500) ∧ Aside0 (Kd.V k48 48 wc w.heap.size (fun k_=>k_ ≠ gb516 ∧ k_ ≠ gb517 ∧ k_ ≠ gb518) (.slice Ao20 t503.length co20) t503) ∧ Aside0 (wc.heap[gb516]? = some (.cells #[.int .i64 t496,.bool t497,.int .i64 t498,.string t499,(.slice Ao19 t500.length co19),(.slice Ao20 t503.length co20)] 29 (0,0))) ∧ Aside0 (wc.heap[gb517]? = some (.cells #[.int .i64 t506,.bool t507,.int .i64 t508,.string t509,(.slice Ao22 t510.length co22),(.slice Ao23 t513.length co23)] 33 (0,0))) ∧ Aside0 (wc.heap[gb518]? = some (.cells #[.int .i64 t496,.bool t497,.int .i64 x519002_31,.string x519003_12,(.slice Ao19 t500.length co19),(.slice Ao20 t503.length co20)] 29 (0,0))) ∧ Aside0 (Below w.heap.size w wc))
      case first =>
       have H:=HC32.out
       clear HC32
       by_cases c36 : t496 = 2
       ·rw [if_pos c36] at H
        have c36b0 : (t496 == 2) = true:=beq_iff_eq.mpr c36
        have c36b1 : (t496 != 2) = false:=bne_eq_false_iff_eq.mpr c36
        clear c36
        (first|rw [c36b0]|(simp only [i64_w,i32_w];rw [c36b0])|skip)
        have H':=Aside0.mk H
        clear H
        go_wp2
        go_meet
        case rel=>exact ⟨_,(t498),H',⟨by have:=HJ3.out;have:=HJ12.out;first|omega|exact Nat.le_refl _⟩,⟨by (with_reducible repeat (first|apply Kd.V_alloc|apply Kd.V_drewN|apply Kd.V_drew));exact HO_517004.out⟩,⟨by (with_reducible repeat (first|apply Kd.V_alloc|apply Kd.V_drewN|apply Kd.V_drew));exact HO_517005.out⟩,⟨by (with_reducible repeat (first|apply Kd.V_alloc|apply Kd.V_drewN|apply Kd.V_drew));exact HO_518004.out⟩,⟨by (with_reducible repeat (first|apply Kd.V_alloc|apply Kd.V_drewN|apply Kd.V_drew));exact HO_518005.out⟩,⟨by (with_reducible repeat (first|apply Kd.V_alloc|apply Kd.V_drewN|apply Kd.V_drew));exact HO_519004.out⟩,⟨by (with_reducible repeat (first|apply Kd.V_alloc|apply Kd.V_drewN|apply Kd.V_drew));exact HO_519005.out⟩,⟨by (with_reducible repeat (first|apply blk_drewN|apply blk_drew|apply blk_alloc));exact BK516.out⟩,⟨by (with_reducible repeat (first|apply blk_drewN|apply blk_drew|apply blk_alloc));exact BK517.out⟩,⟨by (with_reducible repeat (first|apply blk_drewN|apply blk_drew|apply blk_alloc));exact BK518.out⟩,⟨by repeat (first|(with_reducible first|exact HB.out|apply below_alloc|apply pw_below_drewN|apply below_drew1|refine below_set ?_ GE516.out|refine below_set ?_ GE517.out|refine below_set ?_ GE518.out)|exact HB.out)⟩⟩
       ·rw [if_neg c36] at H
        have c36b0 : (t496 == 2) = false:=beq_eq_false_iff_ne.mpr c36
        have c36b1 : (t496 != 2) = true:=bne_iff_ne.mpr c36
        (first|rw [c36b0]|(simp only [i64_w,i32_w];rw [c36b0])|skip)
        have H':=Aside0.mk H
        clear H
        have hnb37:=NB518_516.out
        have hnc37:=NB516_518.out
        have hnb38:=NB518_517.out
        have hnc38:=NB517_518.out
        have hcz39_0 : wc.cell? ⟨gb518,0,none⟩ = some (.int .i64 t496):=(blk_cell BK518.out 0).trans rfl
        have hcz39_1 : wc.cell? ⟨gb518,1,none⟩ = some (.bool t497):=(blk_cell BK518.out 1).trans rfl
        have hcz39_2 : wc.cell? ⟨gb518,2,none⟩ = some (.int .i64 t498):=(blk_cell BK518.out 2).trans rfl
        have hcz39_3 : wc.cell? ⟨gb518,3,none⟩ = some (.string x519003_12):=(blk_cell BK518.out 3).trans rfl
        have hcz39_4 : wc.cell? ⟨gb518,4,none⟩ = some (.slice Ao19 t500.length co19):=(blk_cell BK518.out 4).trans rfl
        have hcz39_5 : wc.cell? ⟨gb518,5,none⟩ = some (.slice Ao20 t503.length co20):=(blk_cell BK518.out 5).trans rfl
        have hfz39_0:=blk_frozen BK518.out 0
        have hfz39_1:=blk_frozen BK518.out 1
        have hfz39_2:=blk_frozen BK518.out 2
        have hfz39_3:=blk_frozen BK518.out 3
        have hfz39_4:=blk_frozen BK518.out 4
        have hfz39_5:=blk_frozen BK518.out 5
        go_wp2
        go_meet
        case rel=>exact ⟨_,(a2),H',⟨by have:=HJ3.out;have:=HJ12.out;first|omega|exact Nat.le_refl _⟩,⟨by (with_reducible repeat (first|apply Kd.V_alloc|apply Kd.V_drewN|apply Kd.V_drew));exact Kd.V_mono (Kd.V_far (p:=⟨gb518,2,none⟩) (Kd.V_mono HO_517004.out (fun k_ hk=>(⟨hk,hk.2.2⟩ : _ ∧ k_ ≠ gb518))) (fun _ hk=>hk.2) (.int .i64 a2)) (fun _ hk=>⟨hk.1.1,⟨hk.1.2.1,hk.1.2.2⟩⟩)⟩,⟨by (with_reducible repeat (first|apply Kd.V_alloc|apply Kd.V_drewN|apply Kd.V_drew));exact Kd.V_mono (Kd.V_far (p:=⟨gb518,2,none⟩) (Kd.V_mono HO_517005.out (fun k_ hk=>(⟨hk,hk.2.2⟩ : _ ∧ k_ ≠ gb518))) (fun _ hk=>hk.2) (.int .i64 a2)) (fun _ hk=>⟨hk.1.1,⟨hk.1.2.1,hk.1.2.2⟩⟩)⟩,⟨by (with_reducible repeat (first|apply Kd.V_alloc|apply Kd.V_drewN|apply Kd.V_drew));exact Kd.V_mono (Kd.V_far (p:=⟨gb518,2,none⟩) (Kd.V_mono HO_518004.out (fun k_ hk=>(⟨hk,hk.2.2⟩ : _ ∧ k_ ≠ gb518))) (fun _ hk=>hk.2) (.int .i64 a2)) (fun _ hk=>⟨hk.1.1,⟨hk.1.2.1,hk.1.2.2⟩⟩)⟩,⟨by (with_reducible repeat (first|apply Kd.V_alloc|apply Kd.V_drewN|apply Kd.V_drew));exact Kd.V_mono (Kd.V_far (p:=⟨gb518,2,none⟩) (Kd.V_mono HO_518005.out (fun k_ hk=>(⟨hk,hk.2.2⟩ : _ ∧ k_ ≠ gb518))) (fun _ hk=>hk.2) (.int .i64 a2)) (fun _ hk=>⟨hk.1.1,⟨hk.1.2.1,hk.1.2.2⟩⟩)⟩,⟨by (with_reducible repeat (first|apply Kd.V_alloc|apply Kd.V_drewN|apply Kd.V_drew));exact Kd.V_mono (Kd.V_far (p:=⟨gb518,2,none⟩) (Kd.V_mono HO_519004.out (fun k_ hk=>(⟨hk,hk.2.2⟩ : _ ∧ k_ ≠ gb518))) (fun _ hk=>hk.2) (.int .i64 a2)) (fun _ hk=>⟨hk.1.1,⟨hk.1.2.1,hk.1.2.2⟩⟩)⟩,⟨by (with_reducible repeat (first|apply Kd.V_alloc|apply Kd.V_drewN|apply Kd.V_drew));exact Kd.V_mono (Kd.V_far (p:=⟨gb518,2,none⟩) (Kd.V_mono HO_519005.out (fun k_ hk=>(⟨hk,hk.2.2⟩ : _ ∧ k_ ≠ gb518))) (fun _ hk=>hk.2) (.int .i64 a2)) (fun _ hk=>⟨hk.1.1,⟨hk.1.2.1,hk.1.2.2⟩⟩)⟩,⟨by (with_reducible repeat (first|apply blk_drewN|apply blk_drew|apply blk_alloc));refine blk_far ?_ NB516_518.out _;(with_reducible repeat (first|apply blk_drewN|apply blk_drew|apply blk_alloc));exact BK516.out⟩,⟨by (with_reducible repeat (first|apply blk_drewN|apply blk_drew|apply blk_alloc));refine blk_far ?_ NB517_518.out _;(with_reducible repeat (first|apply blk_drewN|apply blk_drew|apply blk_alloc));exact BK517.out⟩,⟨by (with_reducible repeat (first|apply blk_drewN|apply blk_drew|apply blk_alloc));refine blk_put (cs:=#[.int .i64 t496,.bool t497,.int .i64 t498,.string x519003_12,.slice Ao19 t500.length co19,.slice Ao20 t503.length co20]) ?_ 2 _ rfl;(with_reducible repeat (first|apply blk_drewN|apply blk_drew|apply blk_alloc));exact BK518.out⟩,⟨by repeat (first|(with_reducible first|exact HB.out|apply below_alloc|apply pw_below_drewN|apply below_drew1|refine below_set ?_ GE516.out|refine below_set ?_ GE517.out|refine below_set ?_ GE518.out)|exact HB.out)⟩⟩
      case rest =>
       clear HC32
       try clear c1
       try clear c2
       try clear p2
       try clear c3
       try clear c5
       try clear c6
       try clear c8
       try clear c9
       try clear c10
       try clear c17
       try clear c25
       try clear c26
       try clear c28
       try clear c28b0
       try clear c28b1
       try clear c29
       try clear c30
       try clear c33
       try clear c34
       try clear c36
       try clear c36b0
       try clear c36b1
       try clear c37
       try clear c38
       try clear hcz18_0
       try clear hcz18_1
       try clear hcz18_2
       try clear hcz18_3
       try clear hcz18_4
       try clear hcz18_5
       try clear hcz21_0
       try clear hcz21_1
       try clear hcz21_2
       try clear hcz21_3
       try clear hcz21_4
       try clear hcz21_5
       try clear hcz27_0
       try clear hcz27_1
       try clear hcz27_2
       try clear hcz27_3
       try clear hcz27_4
       try clear hcz27_5
       try clear hcz31_0
       try clear hcz31_1
       try clear hcz31_2
       try clear hcz31_3
       try clear hcz31_4
       try clear hcz31_5
       try clear hcz35_0
       try clear hcz35_1
       try clear hcz35_2
       try clear hcz35_3
       try clear hcz35_4
       try clear hcz35_5
       try clear hcz39_0
       try clear hcz39_1
       try clear hcz39_2
       try clear hcz39_3
       try clear hcz39_4
       try clear hcz39_5
       try clear hfz18_0
       try clear hfz18_1
       try clear hfz18_2
       try clear hfz18_3
       try clear hfz18_4
       try clear hfz18_5
       try clear hfz21_0
       try clear hfz21_1
       try clear hfz21_2
       try clear hfz21_3
       try clear hfz21_4
       try clear hfz21_5
       try clear hfz27_0
       try clear hfz27_1
       try clear hfz27_2
       try clear hfz27_3
       try clear hfz27_4
       try clear hfz27_5
       try clear hfz31_0
       try clear hfz31_1
       try clear hfz31_2
       try clear hfz31_3
       try clear hfz31_4
       try clear hfz31_5
       try clear hfz35_0
       try clear hfz35_1
       try clear hfz35_2
       try clear hfz35_3
       try clear hfz35_4
       try clear hfz35_5
       try clear hfz39_0
       try clear hfz39_1
       try clear hfz39_2
       try clear hfz39_3
       try clear hfz39_4
       try clear hfz39_5
       try clear p2
       obtain ⟨kq,x519002_31,HA,HJ31,HO_517004,HO_517005,HO_518004,HO_518005,HO_519004,HO_519005,BK516,BK517,BK518,HB⟩:=hcut
       cases kq with
       | zero=>exact absurd HA.out (by simp [bosunlaw05_ValueAlike.j2])
       | succ kj31 =>
        have H:=HA.out
        clear HA
        simp only [bosunlaw05_ValueAlike.j2] at H
        have HC40:=Aside0.mk H
        clear H
        have hnb41:=NB518_516.out
        have hnc41:=NB516_518.out
        have hnb42:=NB518_517.out
        have hnc42:=NB517_518.out
        have hcz43_0 : wc.cell? ⟨gb518,0,none⟩ = some (.int .i64 t496):=(blk_cell BK518.out 0).trans rfl
        have hcz43_1 : wc.cell? ⟨gb518,1,none⟩ = some (.bool t497):=(blk_cell BK518.out 1).trans rfl
        have hcz43_2 : wc.cell? ⟨gb518,2,none⟩ = some (.int .i64 x519002_31):=(blk_cell BK518.out 2).trans rfl
        have hcz43_3 : wc.cell? ⟨gb518,3,none⟩ = some (.string x519003_12):=(blk_cell BK518.out 3).trans rfl
        have hcz43_4 : wc.cell? ⟨gb518,4,none⟩ = some (.slice Ao19 t500.length co19):=(blk_cell BK518.out 4).trans rfl
        have hcz43_5 : wc.cell? ⟨gb518,5,none⟩ = some (.slice Ao20 t503.length co20):=(blk_cell BK518.out 5).trans rfl
        have hfz43_0:=blk_frozen BK518.out 0
        have hfz43_1:=blk_frozen BK518.out 1
        have hfz43_2:=blk_frozen BK518.out 2
        have hfz43_3:=blk_frozen BK518.out 3
        have hfz43_4:=blk_frozen BK518.out 4
        have hfz43_5:=blk_frozen BK518.out 5
        go_upto_if 37 with (fail)
        go_cut [] (fun wc=>∃ (kq : Nat) (x519001_39 : Bool),Aside0 (bosunlaw05_ValueAlike.j3 kq t496 t497 t498 t499 t500 t503 t496 x519001_39 x519002_31 x519003_12 t500 t503 = some r) ∧ Aside0 (kq ≤ kj31) ∧ Aside0 (Kd.V k29 29 wc w.heap.size (fun k_=>k_ ≠ gb516 ∧ k_ ≠ gb517 ∧ k_ ≠ gb518) (.slice Ao19 t500.length co19) t500) ∧ Aside0 (Kd.V k48 48 wc w.heap.size (fun k_=>k_ ≠ gb516 ∧ k_ ≠ gb517 ∧ k_ ≠ gb518) (.slice Ao20 t503.length co20) t503) ∧ Aside0 (Kd.V k33 33 wc w.heap.size (fun k_=>k_ ≠ gb516 ∧ k_ ≠ gb517 ∧ k_ ≠ gb518) (.slice Ao22 t510.length co22) t510) ∧ Aside0 (Kd.V k50 50 wc w.heap.size (fun k_=>k_ ≠ gb516 ∧ k_ ≠ gb517 ∧ k_ ≠ gb518) (.slice Ao23 t513.length co23) t513) ∧ Aside0 (Kd.V k29 29 wc w.heap.size (fun k_=>k_ ≠ gb516 ∧ k_ ≠ gb517 ∧ k_ ≠ gb518) (.slice Ao19 t500.length co19) t500) ∧ Aside0 (Kd.V k48 48 wc w.heap.size (fun k_=>k_ ≠ gb516 ∧ k_ ≠ gb517 ∧ k_ ≠ gb518) (.slice Ao20 t503.length co20) t503) ∧ Aside0 (wc.heap[gb516]? = some (.cells #[.int .i64 t496,.bool t497,.int .i64 t498,.string t499,(.slice Ao19 t500.length co19),(.slice Ao20 t503.length co20)] 29 (0,0))) ∧ Aside0 (wc.heap[gb517]? = some (.cells #[.int .i64 t506,.bool t507,.int .i64 t508,.string t509,(.slice Ao22 t510.length co22),(.slice Ao23 t513.length co23)] 33 (0,0))) ∧ Aside0 (wc.heap[gb518]? = some (.cells #[.int .i64 t496,.bool x519001_39,.int .i64 x519002_31,.string x519003_12,(.slice Ao19 t500.length co19),(.slice Ao20 t503.length co20)] 29 (0,0))) ∧ Aside0 (Below w.heap.size w wc))
        case first =>
         have H:=HC40.out
         clear HC40
         by_cases c44 : t496 = 1
         ·rw [if_pos c44] at H
          have c44b0 : (t496 == 1) = true:=beq_iff_eq.mpr c44
          have c44b1 : (t496 != 1) = false:=bne_eq_false_iff_eq.mpr c44
          clear c44
          (first|rw [c44b0]|(simp only [i64_w,i32_w];rw [c44b0])|skip)
          have H':=Aside0.mk H
          clear H
          go_wp2
          go_meet
          case rel=>exact ⟨_,(t497),H',⟨by have:=HJ3.out;have:=HJ12.out;have:=HJ31.out;first|omega|exact Nat.le_refl _⟩,⟨by (with_reducible repeat (first|apply Kd.V_alloc|apply Kd.V_drewN|apply Kd.V_drew));exact HO_517004.out⟩,⟨by (with_reducible repeat (first|apply Kd.V_alloc|apply Kd.V_drewN|apply Kd.V_drew));exact HO_517005.out⟩,⟨by (with_reducible repeat (first|apply Kd.V_alloc|apply Kd.V_drewN|apply Kd.V_drew));exact HO_518004.out⟩,⟨by (with_reducible repeat (first|apply Kd.V_alloc|apply Kd.V_drewN|apply Kd.V_drew));exact HO_518005.out⟩,⟨by (with_reducible repeat (first|apply Kd.V_alloc|apply Kd.V_drewN|apply Kd.V_drew));exact HO_519004.out⟩,⟨by (with_reducible repeat (first|apply Kd.V_alloc|apply Kd.V_drewN|apply Kd.V_drew));exact HO_519005.out⟩,⟨by (with_reducible repeat (first|apply blk_drewN|apply blk_drew|apply blk_alloc));exact BK516.out⟩,⟨by (with_reducible repeat (first|apply blk_drewN|apply blk_drew|apply blk_alloc));exact BK517.out⟩,⟨by (with_reducible repeat (first|apply blk_drewN|apply blk_drew|apply blk_alloc));exact BK518.out⟩,⟨by repeat (first|(with_reducible first|exact HB.out|apply below_alloc|apply pw_below_drewN|apply below_drew1|refine below_set ?_ GE516.out|refine below_set ?_ GE517.out|refine below_set ?_ GE518.out)|exact HB.out)⟩⟩
         ·rw [if_neg c44] at H
          have c44b0 : (t496 == 1) = false:=beq_eq_false_iff_ne.mpr c44
          have c44b1 : (t496 != 1) = true:=bne_iff_ne.mpr c44
          (first|rw [c44b0]|(simp only [i64_w,i32_w];rw [c44b0])|skip)
          have H':=Aside0.mk H
          clear H
          have hnb45:=NB518_516.out
          have hnc45:=NB516_518.out
          have hnb46:=NB518_517.out
          have hnc46:=NB517_518.out
          have hcz47_0 : wc.cell? ⟨gb518,0,none⟩ = some (.int .i64 t496):=(blk_cell BK518.out 0).trans rfl
          have hcz47_1 : wc.cell? ⟨gb518,1,none⟩ = some (.bool t497):=(blk_cell BK518.out 1).trans rfl
          have hcz47_2 : wc.cell? ⟨gb518,2,none⟩ = some (.int .i64 x519002_31):=(blk_cell BK518.out 2).trans rfl
          have hcz47_3 : wc.cell? ⟨gb518,3,none⟩ = some (.string x519003_12):=(blk_cell BK518.out 3).trans rfl
          have hcz47_4 : wc.cell? ⟨gb518,4,none⟩ = some (.slice Ao19 t500.length co19):=(blk_cell BK518.out 4).trans rfl
          have hcz47_5 : wc.cell? ⟨gb518,5,none⟩ = some (.slice Ao20 t503.length co20):=(blk_cell BK518.out 5).trans rfl
          have hfz47_0:=blk_frozen BK518.out 0
          have hfz47_1:=blk_frozen BK518.out 1
          have hfz47_2:=blk_frozen BK518.out 2
          have hfz47_3:=blk_frozen BK518.out 3
          have hfz47_4:=blk_frozen BK518.out 4
          have hfz47_5:=blk_frozen BK518.out 5
          go_wp2
          go_meet
          case rel=>exact ⟨_,(!t497),H',⟨by have:=HJ3.out;have:=HJ12.out;have:=HJ31.out;first|omega|exact Nat.le_refl _⟩,⟨by (with_reducible repeat (first|apply Kd.V_alloc|apply Kd.V_drewN|apply Kd.V_drew));exact Kd.V_mono (Kd.V_far (p:=⟨gb518,1,none⟩) (Kd.V_mono HO_517004.out (fun k_ hk=>(⟨hk,hk.2.2⟩ : _ ∧ k_ ≠ gb518))) (fun _ hk=>hk.2) (.bool (!t497))) (fun _ hk=>⟨hk.1.1,⟨hk.1.2.1,hk.1.2.2⟩⟩)⟩,⟨by (with_reducible repeat (first|apply Kd.V_alloc|apply Kd.V_drewN|apply Kd.V_drew));exact Kd.V_mono (Kd.V_far (p:=⟨gb518,1,none⟩) (Kd.V_mono HO_517005.out (fun k_ hk=>(⟨hk,hk.2.2⟩ : _ ∧ k_ ≠ gb518))) (fun _ hk=>hk.2) (.bool (!t497))) (fun _ hk=>⟨hk.1.1,⟨hk.1.2.1,hk.1.2.2⟩⟩)⟩,⟨by (with_reducible repeat (first|apply Kd.V_alloc|apply Kd.V_drewN|apply Kd.V_drew));exact Kd.V_mono (Kd.V_far (p:=⟨gb518,1,none⟩) (Kd.V_mono HO_518004.out (fun k_ hk=>(⟨hk,hk.2.2⟩ : _ ∧ k_ ≠ gb518))) (fun _ hk=>hk.2) (.bool (!t497))) (fun _ hk=>⟨hk.1.1,⟨hk.1.2.1,hk.1.2.2⟩⟩)⟩,⟨by (with_reducible repeat (first|apply Kd.V_alloc|apply Kd.V_drewN|apply Kd.V_drew));exact Kd.V_mono (Kd.V_far (p:=⟨gb518,1,none⟩) (Kd.V_mono HO_518005.out (fun k_ hk=>(⟨hk,hk.2.2⟩ : _ ∧ k_ ≠ gb518))) (fun _ hk=>hk.2) (.bool (!t497))) (fun _ hk=>⟨hk.1.1,⟨hk.1.2.1,hk.1.2.2⟩⟩)⟩,⟨by (with_reducible repeat (first|apply Kd.V_alloc|apply Kd.V_drewN|apply Kd.V_drew));exact Kd.V_mono (Kd.V_far (p:=⟨gb518,1,none⟩) (Kd.V_mono HO_519004.out (fun k_ hk=>(⟨hk,hk.2.2⟩ : _ ∧ k_ ≠ gb518))) (fun _ hk=>hk.2) (.bool (!t497))) (fun _ hk=>⟨hk.1.1,⟨hk.1.2.1,hk.1.2.2⟩⟩)⟩,⟨by (with_reducible repeat (first|apply Kd.V_alloc|apply Kd.V_drewN|apply Kd.V_drew));exact Kd.V_mono (Kd.V_far (p:=⟨gb518,1,none⟩) (Kd.V_mono HO_519005.out (fun k_ hk=>(⟨hk,hk.2.2⟩ : _ ∧ k_ ≠ gb518))) (fun _ hk=>hk.2) (.bool (!t497))) (fun _ hk=>⟨hk.1.1,⟨hk.1.2.1,hk.1.2.2⟩⟩)⟩,⟨by (with_reducible repeat (first|apply blk_drewN|apply blk_drew|apply blk_alloc));refine blk_far ?_ NB516_518.out _;(with_reducible repeat (first|apply blk_drewN|apply blk_drew|apply blk_alloc));exact BK516.out⟩,⟨by (with_reducible repeat (first|apply blk_drewN|apply blk_drew|apply blk_alloc));refine blk_far ?_ NB517_518.out _;(with_reducible repeat (first|apply blk_drewN|apply blk_drew|apply blk_alloc));exact BK517.out⟩,⟨by (with_reducible repeat (first|apply blk_drewN|apply blk_drew|apply blk_alloc));refine blk_put (cs:=#[.int .i64 t496,.bool t497,.int .i64 x519002_31,.string x519003_12,.slice Ao19 t500.length co19,.slice Ao20 t503.length co20]) ?_ 1 _ rfl;(with_reducible repeat (first|apply blk_drewN|apply blk_drew|apply blk_alloc));exact BK518.out⟩,⟨by repeat (first|(with_reducible first|exact HB.out|apply below_alloc|apply pw_below_drewN|apply below_drew1|refine below_set ?_ GE516.out|refine below_set ?_ GE517.out|refine below_set ?_ GE518.out)|exact HB.out)⟩⟩
        case rest =>
         clear HC40
         try clear c1
         try clear c2
         try clear p2
         try clear c3
         try clear c4
         try clear c5
         try clear c6
         try clear c8
         try clear c9
         try clear c10
         try clear c17
         try clear c25
         try clear c26
         try clear c28
         try clear c28b0
         try clear c28b1
         try clear c29
         try clear c30
         try clear c33
         try clear c34
         try clear c36
         try clear c36b0
         try clear c36b1
         try clear c37
         try clear c38
         try clear c41
         try clear c42
         try clear c44
         try clear c44b0
         try clear c44b1
         try clear c45
         try clear c46
         try clear hcz18_0
         try clear hcz18_1
         try clear hcz18_2
         try clear hcz18_3
         try clear hcz18_4
         try clear hcz18_5
         try clear hcz21_0
         try clear hcz21_1
         try clear hcz21_2
         try clear hcz21_3
         try clear hcz21_4
         try clear hcz21_5
         try clear hcz27_0
         try clear hcz27_1
         try clear hcz27_2
         try clear hcz27_3
         try clear hcz27_4
         try clear hcz27_5
         try clear hcz31_0
         try clear hcz31_1
         try clear hcz31_2
         try clear hcz31_3
         try clear hcz31_4
         try clear hcz31_5
         try clear hcz35_0
         try clear hcz35_1
         try clear hcz35_2
         try clear hcz35_3
         try clear hcz35_4
         try clear hcz35_5
         try clear hcz39_0
         try clear hcz39_1
         try clear hcz39_2
         try clear hcz39_3
         try clear hcz39_4
         try clear hcz39_5
         try clear hcz43_0
         try clear hcz43_1
         try clear hcz43_2
         try clear hcz43_3
         try clear hcz43_4
         try clear hcz43_5
         try clear hcz47_0
         try clear hcz47_1
         try clear hcz47_2
         try clear hcz47_3
         try clear hcz47_4
         try clear hcz47_5
         try clear hfz18_0
         try clear hfz18_1
         try clear hfz18_2
         try clear hfz18_3
         try clear hfz18_4
         try clear hfz18_5
         try clear hfz21_0
         try clear hfz21_1
         try clear hfz21_2
         try clear hfz21_3
         try clear hfz21_4
         try clear hfz21_5
         try clear hfz27_0
         try clear hfz27_1
         try clear hfz27_2
         try clear hfz27_3
         try clear hfz27_4
         try clear hfz27_5
         try clear hfz31_0
         try clear hfz31_1
         try clear hfz31_2
         try clear hfz31_3
         try clear hfz31_4
         try clear hfz31_5
         try clear hfz35_0
         try clear hfz35_1
         try clear hfz35_2
         try clear hfz35_3
         try clear hfz35_4
         try clear hfz35_5
         try clear hfz39_0
         try clear hfz39_1
         try clear hfz39_2
         try clear hfz39_3
         try clear hfz39_4
         try clear hfz39_5
         try clear hfz43_0
         try clear hfz43_1
         try clear hfz43_2
         try clear hfz43_3
         try clear hfz43_4
         try clear hfz43_5
         try clear hfz47_0
         try clear hfz47_1
         try clear hfz47_2
         try clear hfz47_3
         try clear hfz47_4
         try clear hfz47_5
         try clear p2
         obtain ⟨kq,x519001_39,HA,HJ39,HO_517004,HO_517005,HO_518004,HO_518005,HO_519004,HO_519005,BK516,BK517,BK518,HB⟩:=hcut
         cases kq with
         | zero=>exact absurd HA.out (by simp [bosunlaw05_ValueAlike.j3])
         | succ kj39 =>
          have H:=HA.out
          clear HA
          simp only [bosunlaw05_ValueAlike.j3] at H
          replace H:=Option.bind_eq_some_iff.mp H
          obtain ⟨t519,A480,H⟩:=H
          replace H : (if t519 = true then ((value_Value_Same.f kj39 t496 t497 t498 t499 t500 t503 t496 x519001_39 x519002_31 x519003_12 t500 t503).bind fun t520=>(if t520 = true then ((value_Value_Same.f kj39 t496 x519001_39 x519002_31 x519003_12 t500 t503 t496 t497 t498 t499 t500 t503).bind fun t521=>(if t521 = true then ((value_Value_Check.f kj39 t496 t497 t498 t499 t500 t503).bind fun t522=>((value_Value_Check.f kj39 t496 x519001_39 x519002_31 x519003_12 t500 t503).bind fun t523=>(if t522 = t523 then ((value_Value_Depth.f kj39 t496 t497 t498 t499 t500 t503).bind fun t524=>((value_Value_Depth.f kj39 t496 x519001_39 x519002_31 x519003_12 t500 t503).bind fun t525=>(some (t524 == t525)))) else (some false)))) else (some false))) else (some false))) else (some false)) = some r:=H
          have A48:=Aside0.mk A480
          clear A480
          by_cases c49 : t519 = true
          ·subst c49
           have H1 : ((value_Value_Same.f kj39 t496 t497 t498 t499 t500 t503 t496 x519001_39 x519002_31 x519003_12 t500 t503).bind fun t520=>(if t520 = true then ((value_Value_Same.f kj39 t496 x519001_39 x519002_31 x519003_12 t500 t503 t496 t497 t498 t499 t500 t503).bind fun t521=>(if t521 = true then ((value_Value_Check.f kj39 t496 t497 t498 t499 t500 t503).bind fun t522=>((value_Value_Check.f kj39 t496 x519001_39 x519002_31 x519003_12 t500 t503).bind fun t523=>(if t522 = t523 then ((value_Value_Depth.f kj39 t496 t497 t498 t499 t500 t503).bind fun t524=>((value_Value_Depth.f kj39 t496 x519001_39 x519002_31 x519003_12 t500 t503).bind fun t525=>(some (t524 == t525)))) else (some false)))) else (some false))) else (some false))) = some r:=by rw [if_pos rfl] at H;exact H
           clear H
           have H:=H1
           clear H1
           replace H:=Option.bind_eq_some_iff.mp H
           obtain ⟨t520,A500,H⟩:=H
           replace H : (if t520 = true then ((value_Value_Same.f kj39 t496 x519001_39 x519002_31 x519003_12 t500 t503 t496 t497 t498 t499 t500 t503).bind fun t521=>(if t521 = true then ((value_Value_Check.f kj39 t496 t497 t498 t499 t500 t503).bind fun t522=>((value_Value_Check.f kj39 t496 x519001_39 x519002_31 x519003_12 t500 t503).bind fun t523=>(if t522 = t523 then ((value_Value_Depth.f kj39 t496 t497 t498 t499 t500 t503).bind fun t524=>((value_Value_Depth.f kj39 t496 x519001_39 x519002_31 x519003_12 t500 t503).bind fun t525=>(some (t524 == t525)))) else (some false)))) else (some false))) else (some false)) = some r:=H
           have A50:=Aside0.mk A500
           clear A500
           by_cases c51 : t520 = true
           ·subst c51
            have H1 : ((value_Value_Same.f kj39 t496 x519001_39 x519002_31 x519003_12 t500 t503 t496 t497 t498 t499 t500 t503).bind fun t521=>(if t521 = true then ((value_Value_Check.f kj39 t496 t497 t498 t499 t500 t503).bind fun t522=>((value_Value_Check.f kj39 t496 x519001_39 x519002_31 x519003_12 t500 t503).bind fun t523=>(if t522 = t523 then ((value_Value_Depth.f kj39 t496 t497 t498 t499 t500 t503).bind fun t524=>((value_Value_Depth.f kj39 t496 x519001_39 x519002_31 x519003_12 t500 t503).bind fun t525=>(some (t524 == t525)))) else (some false)))) else (some false))) = some r:=by rw [if_pos rfl] at H;exact H
            clear H
            have H:=H1
            clear H1
            replace H:=Option.bind_eq_some_iff.mp H
            obtain ⟨t521,A520,H⟩:=H
            replace H : (if t521 = true then ((value_Value_Check.f kj39 t496 t497 t498 t499 t500 t503).bind fun t522=>((value_Value_Check.f kj39 t496 x519001_39 x519002_31 x519003_12 t500 t503).bind fun t523=>(if t522 = t523 then ((value_Value_Depth.f kj39 t496 t497 t498 t499 t500 t503).bind fun t524=>((value_Value_Depth.f kj39 t496 x519001_39 x519002_31 x519003_12 t500 t503).bind fun t525=>(some (t524 == t525)))) else (some false)))) else (some false)) = some r:=H
            have A52:=Aside0.mk A520
            clear A520
            by_cases c53 : t521 = true
            ·subst c53
             have H1 : ((value_Value_Check.f kj39 t496 t497 t498 t499 t500 t503).bind fun t522=>((value_Value_Check.f kj39 t496 x519001_39 x519002_31 x519003_12 t500 t503).bind fun t523=>(if t522 = t523 then ((value_Value_Depth.f kj39 t496 t497 t498 t499 t500 t503).bind fun t524=>((value_Value_Depth.f kj39 t496 x519001_39 x519002_31 x519003_12 t500 t503).bind fun t525=>(some (t524 == t525)))) else (some false)))) = some r:=by rw [if_pos rfl] at H;exact H
             clear H
             have H:=H1
             clear H1
             replace H:=Option.bind_eq_some_iff.mp H
             obtain ⟨t522,A540,H⟩:=H
             replace H : ((value_Value_Check.f kj39 t496 x519001_39 x519002_31 x519003_12 t500 t503).bind fun t523=>(if t522 = t523 then ((value_Value_Depth.f kj39 t496 t497 t498 t499 t500 t503).bind fun t524=>((value_Value_Depth.f kj39 t496 x519001_39 x519002_31 x519003_12 t500 t503).bind fun t525=>(some (t524 == t525)))) else (some false))) = some r:=H
             have A54:=Aside0.mk A540
             clear A540
             replace H:=Option.bind_eq_some_iff.mp H
             obtain ⟨t523,A550,H⟩:=H
             replace H : (if t522 = t523 then ((value_Value_Depth.f kj39 t496 t497 t498 t499 t500 t503).bind fun t524=>((value_Value_Depth.f kj39 t496 x519001_39 x519002_31 x519003_12 t500 t503).bind fun t525=>(some (t524 == t525)))) else (some false)) = some r:=H
             have A55:=Aside0.mk A550
             clear A550
             by_cases c56 : t522 = t523
             ·rw [if_pos c56] at H
              have c56b0 : (t522 == t523) = true:=beq_iff_eq.mpr c56
              have c56b1 : (t522 != t523) = false:=bne_eq_false_iff_eq.mpr c56
              clear c56
              replace H:=Option.bind_eq_some_iff.mp H
              obtain ⟨t524,A570,H⟩:=H
              replace H : ((value_Value_Depth.f kj39 t496 x519001_39 x519002_31 x519003_12 t500 t503).bind fun t525=>(some (t524 == t525))) = some r:=H
              have A57:=Aside0.mk A570
              clear A570
              replace H:=Option.bind_eq_some_iff.mp H
              obtain ⟨t525,A580,H⟩:=H
              replace H : (some (t524 == t525)) = some r:=H
              have A58:=Aside0.mk A580
              clear A580
              obtain rfl:=Option.some.inj H
              try go_wp2
              have n0_:=Aside0.mk (Kd.V_drew HO_517004.out)
              have n1_:=Aside0.mk (Kd.V_drew HO_517005.out)
              have n2_:=Aside0.mk (Kd.V_drew HO_518004.out)
              have n3_:=Aside0.mk (Kd.V_drew HO_518005.out)
              have n4_:=Aside0.mk (Kd.V_drew HO_519004.out)
              have n5_:=Aside0.mk (Kd.V_drew HO_519005.out)
              have n6_:=Aside0.mk (blk_drew BK516.out)
              have n7_:=Aside0.mk (blk_drew BK517.out)
              have n8_:=Aside0.mk (blk_drew BK518.out)
              have n9_:=Aside0.mk (below_drew1 HB.out)
              clear HO_517004
              clear HO_517005
              clear HO_518004
              clear HO_518005
              clear HO_519004
              clear HO_519005
              clear BK516
              clear BK517
              clear BK518
              clear HB
              have HO_517004:=n0_
              have HO_517005:=n1_
              have HO_518004:=n2_
              have HO_518005:=n3_
              have HO_519004:=n4_
              have HO_519005:=n5_
              have BK516:=n6_
              have BK517:=n7_
              have BK518:=n8_
              have HB:=n9_
              clear n0_ n1_ n2_ n3_ n4_ n5_ n6_ n7_ n8_ n9_
              refine start_ (n:=26) (S:=fun w'=>w'.cell? ⟨gb516,0,none⟩ = some (.int .i64 t496) ∧ w'.cell? ⟨gb516,1,none⟩ = some (.bool t497) ∧ w'.cell? ⟨gb516,2,none⟩ = some (.int .i64 t498) ∧ w'.cell? ⟨gb516,3,none⟩ = some (.string t499) ∧ w'.cell? ⟨gb516,4,none⟩ = some (.slice Ao19 t500.length co19) ∧ w'.cell? ⟨gb516,5,none⟩ = some (.slice Ao20 t503.length co20) ∧ w'.cell? ⟨gb518,0,none⟩ = some (.int .i64 t496) ∧ w'.cell? ⟨gb518,1,none⟩ = some (.bool x519001_39) ∧ w'.cell? ⟨gb518,2,none⟩ = some (.int .i64 x519002_31) ∧ w'.cell? ⟨gb518,3,none⟩ = some (.string x519003_12) ∧ w'.cell? ⟨gb518,4,none⟩ = some (.slice Ao19 t500.length co19) ∧ w'.cell? ⟨gb518,5,none⟩ = some (.slice Ao20 t503.length co20)) (ds:=[]) #[false,false,false,false,false,false,false,false,false,false,false,false,false,false,false,false,false,false,false,false,false,false,false,false,false,false] (by kernel_rfl) rfl rfl ⟨(blk_cell BK516.out 0).trans rfl,(blk_cell BK516.out 1).trans rfl,(blk_cell BK516.out 2).trans rfl,(blk_cell BK516.out 3).trans rfl,(blk_cell BK516.out 4).trans rfl,(blk_cell BK516.out 5).trans rfl,(blk_cell BK518.out 0).trans rfl,(blk_cell BK518.out 1).trans rfl,(blk_cell BK518.out 2).trans rfl,(blk_cell BK518.out 3).trans rfl,(blk_cell BK518.out 4).trans rfl,(blk_cell BK518.out 5).trans rfl⟩ (fun hHeld=>?_);refine with_tabW bosunlaw05_ValueAlike.tab11 bosunlaw05_ValueAlike.bits11 (fun HT_ HW_=>?_)
              generalize wc.drew = w59 at HO_517004 HO_517005 HO_518004 HO_518005 HO_519004 HO_519005 BK516 BK517 BK518 HB hHeld ⊢
              refine one_ (i:=0) (N:=some 42) #[true,false,false,false,false,false,false,false,false,false,false,false,false,false,false,false,false,false,false,false,false,false,false,false,false,false] rfl rfl (one_of HT_.out (by kernel_rfl)) (by decide) (fun K hK=>?_)
              refine goes_ Tryd.func9 (by kernel_rfl) rfl #[] (by rfl) rfl rfl (by (try simp only [List.map_toArray,List.map_cons,List.map_nil]);first|done|rfl|(simp only [List.length_drop,List.length_take];rfl)) ?_
              with_reducible refine (bosunlaw05_Awake.calls kj39  true _ A48.out (by first|assumption|exact GW.below hG (by first|exact HB.out|assumption|(repeat (first|(with_reducible first|exact HB.out|apply below_alloc|apply pw_below_drewN|apply below_drew1)|exact HB.out)))|exact GW.drawn hG (by first|assumption|(repeat (first|exact Drawn0.refl _|assumption|apply Drawn0.step))))).mono ?_
              rintro e w60 ⟨rfl,hb⟩
              refine ⟨_,rfl,?_⟩
              have n0_:=Aside0.mk (Kd.V_below (by (with_reducible repeat (first|apply Kd.V_alloc|apply Kd.V_drewN|apply Kd.V_drew));exact HO_517004.out) hb)
              have n1_:=Aside0.mk (Kd.V_below (by (with_reducible repeat (first|apply Kd.V_alloc|apply Kd.V_drewN|apply Kd.V_drew));exact HO_517005.out) hb)
              have n2_:=Aside0.mk (Kd.V_below (by (with_reducible repeat (first|apply Kd.V_alloc|apply Kd.V_drewN|apply Kd.V_drew));exact HO_518004.out) hb)
              have n3_:=Aside0.mk (Kd.V_below (by (with_reducible repeat (first|apply Kd.V_alloc|apply Kd.V_drewN|apply Kd.V_drew));exact HO_518005.out) hb)
              have n4_:=Aside0.mk (Kd.V_below (by (with_reducible repeat (first|apply Kd.V_alloc|apply Kd.V_drewN|apply Kd.V_drew));exact HO_519004.out) hb)
              have n5_:=Aside0.mk (Kd.V_below (by (with_reducible repeat (first|apply Kd.V_alloc|apply Kd.V_drewN|apply Kd.V_drew));exact HO_519005.out) hb)
              have n6_:=Aside0.mk (blk_below (g:=gb516) (o:=.cells #[.int .i64 t496,.bool t497,.int .i64 t498,.string t499,.slice Ao19 t500.length co19,.slice Ao20 t503.length co20] 29 (0,0)) (by (with_reducible repeat (first|apply blk_drewN|apply blk_drew|apply blk_alloc));exact BK516.out) hb)
              have n7_:=Aside0.mk (blk_below (g:=gb517) (o:=.cells #[.int .i64 t506,.bool t507,.int .i64 t508,.string t509,.slice Ao22 t510.length co22,.slice Ao23 t513.length co23] 33 (0,0)) (by (with_reducible repeat (first|apply blk_drewN|apply blk_drew|apply blk_alloc));exact BK517.out) hb)
              have n8_:=Aside0.mk (blk_below (g:=gb518) (o:=.cells #[.int .i64 t496,.bool x519001_39,.int .i64 x519002_31,.string x519003_12,.slice Ao19 t500.length co19,.slice Ao20 t503.length co20] 29 (0,0)) (by (with_reducible repeat (first|apply blk_drewN|apply blk_drew|apply blk_alloc));exact BK518.out) hb)
              have n9_:=Aside0.mk (below_step (by repeat (first|(with_reducible first|exact HB.out|apply below_alloc|apply pw_below_drewN|apply below_drew1|refine below_set ?_ GE516.out|refine below_set ?_ GE517.out|refine below_set ?_ GE518.out)|exact HB.out)) hb)
              clear HO_517004
              clear HO_517005
              clear HO_518004
              clear HO_518005
              clear HO_519004
              clear HO_519005
              clear BK516
              clear BK517
              clear BK518
              clear HB
              have HO_517004:=n0_
              have HO_517005:=n1_
              have HO_518004:=n2_
              have HO_518005:=n3_
              have HO_519004:=n4_
              have HO_519005:=n5_
              have BK516:=n6_
              have BK517:=n7_
              have BK518:=n8_
              have HB:=n9_
              clear n0_ n1_ n2_ n3_ n4_ n5_ n6_ n7_ n8_ n9_
              (try clear hb)
              (try clear hb2)
              (try clear hk)
              (try clear hi)
              refine hK.out _ _ ⟨(blk_cell BK516.out 0).trans rfl,(blk_cell BK516.out 1).trans rfl,(blk_cell BK516.out 2).trans rfl,(blk_cell BK516.out 3).trans rfl,(blk_cell BK516.out 4).trans rfl,(blk_cell BK516.out 5).trans rfl,(blk_cell BK518.out 0).trans rfl,(blk_cell BK518.out 1).trans rfl,(blk_cell BK518.out 2).trans rfl,(blk_cell BK518.out 3).trans rfl,(blk_cell BK518.out 4).trans rfl,(blk_cell BK518.out 5).trans rfl⟩ (fun hHeld=>?_)
              clear hK K
              refine norm_ (a':=?_) ?_ ?_
              rotate_left
              ·show Act.put _ (some 42) _ = _
               simp only [Act.put,List.setIfInBounds_toArray,List.set_cons_zero,List.set_cons_succ,i64_w,i32_w]
               rfl
              refine pure_ (i:=1) (N:=some 43) (v:=?_) (a':=?_) #[true,true,false,false,false,false,false,false,false,false,false,false,false,false,false,false,false,false,false,false,false,false,false,false,false,false] rfl rfl (any_of HT_.out (by kernel_rfl)) (fun _ _ _ h=>h) (Or.inl ⟨by rfl,?_⟩) ?_ ?_
              rotate_left
              ·intro w'
               go_simp
               with_reducible rfl
              rotate_left
              ·simp only [Act.put,List.setIfInBounds_toArray,List.set_cons_zero,List.set_cons_succ,i64_w,i32_w]
               rfl
              refine take_ (i:=2) (N:=some 44) (v:=?_) (a':=?_) #[true,true,true,false,false,false,false,false,false,false,false,false,false,false,false,false,false,false,false,false,false,false,false,false,false,false] rfl rfl (take_ofW HT_.out HW_.out (by kernel_rfl)) (fun _ _ _ h=>h) (Or.inl ⟨by rfl,?_⟩) hHeld ?_ ?_
              rotate_left
              ·rintro w' ⟨s0,s1,s2,s3,s4,s5,s6,s7,s8,s9,s10,s11⟩
               go_simp
               with_reducible rfl
              rotate_left
              ·simp only [Act.put,List.setIfInBounds_toArray,List.set_cons_zero,List.set_cons_succ,i64_w,i32_w]
               rfl
              refine take_ (i:=3) (N:=some 45) (v:=?_) (a':=?_) #[true,true,true,true,false,false,false,false,false,false,false,false,false,false,false,false,false,false,false,false,false,false,false,false,false,false] rfl rfl (take_ofW HT_.out HW_.out (by kernel_rfl)) (fun _ _ _ h=>h) (Or.inl ⟨by rfl,?_⟩) hHeld ?_ ?_
              rotate_left
              ·rintro w' ⟨s0,s1,s2,s3,s4,s5,s6,s7,s8,s9,s10,s11⟩
               go_simp
               with_reducible rfl
              rotate_left
              ·simp only [Act.put,List.setIfInBounds_toArray,List.set_cons_zero,List.set_cons_succ,i64_w,i32_w]
               rfl
              refine one_ (i:=4) (N:=some 46) #[true,true,true,true,true,false,false,false,false,false,false,false,false,false,false,false,false,false,false,false,false,false,false,false,false,false] rfl rfl (one_of HT_.out (by kernel_rfl)) (by decide) (fun K hK=>?_)
              refine goes_ Tryd.func24 (by kernel_rfl) rfl #[.agg #[.int .i64 t496,.bool t497,.int .i64 t498,.string t499,.slice Ao19 t500.length co19,.slice Ao20 t503.length co20],.agg #[.int .i64 t496,.bool x519001_39,.int .i64 x519002_31,.string x519003_12,.slice Ao19 t500.length co19,.slice Ao20 t503.length co20]] (by rfl) rfl rfl (by (try simp only [List.map_toArray,List.map_cons,List.map_nil]);first|done|rfl|(simp only [List.length_drop,List.length_take];rfl)) ?_
              with_reducible refine (value_Value_Same.calls kj39 t496 t497 t498 t499 _ _ t500 _ _ t503 t496 x519001_39 x519002_31 x519003_12 _ _ t500 _ _ t503 true _ ?side1 ?side2 ?side3 ?side4 ?side5 ?side6 ?side7 ?side8 A50.out).mono ?_
              (case side1=>repeat (first|exact (Kd.V_reads' HO_517004.out).2.2|(with_reducible refine Kd.C_alloc ?_ _)|(with_reducible refine Kd.C_drewN ?_ _)|(with_reducible refine Kd.C_drew ?_)))
              (case side2=>exact (Kd.V_reads' HO_517004.out).2.1)
              (case side3=>repeat (first|exact (Kd.V_reads' HO_517005.out).2.2|(with_reducible refine Kd.C_alloc ?_ _)|(with_reducible refine Kd.C_drewN ?_ _)|(with_reducible refine Kd.C_drew ?_)))
              (case side4=>exact (Kd.V_reads' HO_517005.out).2.1)
              (case side5=>repeat (first|exact (Kd.V_reads' HO_519004.out).2.2|(with_reducible refine Kd.C_alloc ?_ _)|(with_reducible refine Kd.C_drewN ?_ _)|(with_reducible refine Kd.C_drew ?_)))
              (case side6=>exact (Kd.V_reads' HO_519004.out).2.1)
              (case side7=>repeat (first|exact (Kd.V_reads' HO_519005.out).2.2|(with_reducible refine Kd.C_alloc ?_ _)|(with_reducible refine Kd.C_drewN ?_ _)|(with_reducible refine Kd.C_drew ?_)))
              (case side8=>exact (Kd.V_reads' HO_519005.out).2.1)
              rintro e w61 ⟨rfl,hb⟩
              refine ⟨_,rfl,?_⟩
              have n0_:=Aside0.mk (Kd.V_below (by (with_reducible repeat (first|apply Kd.V_alloc|apply Kd.V_drewN|apply Kd.V_drew));exact HO_517004.out) hb)
              have n1_:=Aside0.mk (Kd.V_below (by (with_reducible repeat (first|apply Kd.V_alloc|apply Kd.V_drewN|apply Kd.V_drew));exact HO_517005.out) hb)
              have n2_:=Aside0.mk (Kd.V_below (by (with_reducible repeat (first|apply Kd.V_alloc|apply Kd.V_drewN|apply Kd.V_drew));exact HO_518004.out) hb)
              have n3_:=Aside0.mk (Kd.V_below (by (with_reducible repeat (first|apply Kd.V_alloc|apply Kd.V_drewN|apply Kd.V_drew));exact HO_518005.out) hb)
              have n4_:=Aside0.mk (Kd.V_below (by (with_reducible repeat (first|apply Kd.V_alloc|apply Kd.V_drewN|apply Kd.V_drew));exact HO_519004.out) hb)
              have n5_:=Aside0.mk (Kd.V_below (by (with_reducible repeat (first|apply Kd.V_alloc|apply Kd.V_drewN|apply Kd.V_drew));exact HO_519005.out) hb)
              have n6_:=Aside0.mk (blk_below (g:=gb516) (o:=.cells #[.int .i64 t496,.bool t497,.int .i64 t498,.string t499,.slice Ao19 t500.length co19,.slice Ao20 t503.length co20] 29 (0,0)) (by (with_reducible repeat (first|apply blk_drewN|apply blk_drew|apply blk_alloc));exact BK516.out) hb)
              have n7_:=Aside0.mk (blk_below (g:=gb517) (o:=.cells #[.int .i64 t506,.bool t507,.int .i64 t508,.string t509,.slice Ao22 t510.length co22,.slice Ao23 t513.length co23] 33 (0,0)) (by (with_reducible repeat (first|apply blk_drewN|apply blk_drew|apply blk_alloc));exact BK517.out) hb)
              have n8_:=Aside0.mk (blk_below (g:=gb518) (o:=.cells #[.int .i64 t496,.bool x519001_39,.int .i64 x519002_31,.string x519003_12,.slice Ao19 t500.length co19,.slice Ao20 t503.length co20] 29 (0,0)) (by (with_reducible repeat (first|apply blk_drewN|apply blk_drew|apply blk_alloc));exact BK518.out) hb)
              have n9_:=Aside0.mk (below_step (by repeat (first|(with_reducible first|exact HB.out|apply below_alloc|apply pw_below_drewN|apply below_drew1|refine below_set ?_ GE516.out|refine below_set ?_ GE517.out|refine below_set ?_ GE518.out)|exact HB.out)) hb)
              clear HO_517004
              clear HO_517005
              clear HO_518004
              clear HO_518005
              clear HO_519004
              clear HO_519005
              clear BK516
              clear BK517
              clear BK518
              clear HB
              have HO_517004:=n0_
              have HO_517005:=n1_
              have HO_518004:=n2_
              have HO_518005:=n3_
              have HO_519004:=n4_
              have HO_519005:=n5_
              have BK516:=n6_
              have BK517:=n7_
              have BK518:=n8_
              have HB:=n9_
              clear n0_ n1_ n2_ n3_ n4_ n5_ n6_ n7_ n8_ n9_
              (try clear hb)
              (try clear hb2)
              (try clear hk)
              (try clear hi)
              refine hK.out _ _ ⟨(blk_cell BK516.out 0).trans rfl,(blk_cell BK516.out 1).trans rfl,(blk_cell BK516.out 2).trans rfl,(blk_cell BK516.out 3).trans rfl,(blk_cell BK516.out 4).trans rfl,(blk_cell BK516.out 5).trans rfl,(blk_cell BK518.out 0).trans rfl,(blk_cell BK518.out 1).trans rfl,(blk_cell BK518.out 2).trans rfl,(blk_cell BK518.out 3).trans rfl,(blk_cell BK518.out 4).trans rfl,(blk_cell BK518.out 5).trans rfl⟩ (fun hHeld=>?_)
              clear hK K
              refine norm_ (a':=?_) ?_ ?_
              rotate_left
              ·show Act.put _ (some 46) _ = _
               simp only [Act.put,List.setIfInBounds_toArray,List.set_cons_zero,List.set_cons_succ,i64_w,i32_w]
               rfl
              refine pure_ (i:=5) (N:=some 47) (v:=?_) (a':=?_) #[true,true,true,true,true,true,false,false,false,false,false,false,false,false,false,false,false,false,false,false,false,false,false,false,false,false] rfl rfl (any_of HT_.out (by kernel_rfl)) (fun _ _ _ h=>h) (Or.inl ⟨by rfl,?_⟩) ?_ ?_
              rotate_left
              ·intro w'
               go_simp
               with_reducible rfl
              rotate_left
              ·simp only [Act.put,List.setIfInBounds_toArray,List.set_cons_zero,List.set_cons_succ,i64_w,i32_w]
               rfl
              refine pure_ (i:=6) (N:=some 48) (v:=?_) (a':=?_) #[true,true,true,true,true,true,true,false,false,false,false,false,false,false,false,false,false,false,false,false,false,false,false,false,false,false] rfl rfl (any_of HT_.out (by kernel_rfl)) (fun _ _ _ h=>h) (Or.inl ⟨by rfl,?_⟩) ?_ ?_
              rotate_left
              ·intro w'
               go_simp
               with_reducible rfl
              rotate_left
              ·simp only [Act.put,List.setIfInBounds_toArray,List.set_cons_zero,List.set_cons_succ,i64_w,i32_w]
               rfl
              refine take_ (i:=7) (N:=some 49) (v:=?_) (a':=?_) #[true,true,true,true,true,true,true,true,false,false,false,false,false,false,false,false,false,false,false,false,false,false,false,false,false,false] rfl rfl (take_ofW HT_.out HW_.out (by kernel_rfl)) (fun _ _ _ h=>h) (Or.inl ⟨by rfl,?_⟩) hHeld ?_ ?_
              rotate_left
              ·rintro w' ⟨s0,s1,s2,s3,s4,s5,s6,s7,s8,s9,s10,s11⟩
               go_simp
               with_reducible rfl
              rotate_left
              ·simp only [Act.put,List.setIfInBounds_toArray,List.set_cons_zero,List.set_cons_succ,i64_w,i32_w]
               rfl
              refine take_ (i:=8) (N:=some 50) (v:=?_) (a':=?_) #[true,true,true,true,true,true,true,true,true,false,false,false,false,false,false,false,false,false,false,false,false,false,false,false,false,false] rfl rfl (take_ofW HT_.out HW_.out (by kernel_rfl)) (fun _ _ _ h=>h) (Or.inl ⟨by rfl,?_⟩) hHeld ?_ ?_
              rotate_left
              ·rintro w' ⟨s0,s1,s2,s3,s4,s5,s6,s7,s8,s9,s10,s11⟩
               go_simp
               with_reducible rfl
              rotate_left
              ·simp only [Act.put,List.setIfInBounds_toArray,List.set_cons_zero,List.set_cons_succ,i64_w,i32_w]
               rfl
              refine one_ (i:=9) (N:=some 51) #[true,true,true,true,true,true,true,true,true,true,false,false,false,false,false,false,false,false,false,false,false,false,false,false,false,false] rfl rfl (one_of HT_.out (by kernel_rfl)) (by decide) (fun K hK=>?_)
              refine goes_ Tryd.func24 (by kernel_rfl) rfl #[.agg #[.int .i64 t496,.bool x519001_39,.int .i64 x519002_31,.string x519003_12,.slice Ao19 t500.length co19,.slice Ao20 t503.length co20],.agg #[.int .i64 t496,.bool t497,.int .i64 t498,.string t499,.slice Ao19 t500.length co19,.slice Ao20 t503.length co20]] (by rfl) rfl rfl (by (try simp only [List.map_toArray,List.map_cons,List.map_nil]);first|done|rfl|(simp only [List.length_drop,List.length_take];rfl)) ?_
              with_reducible refine (value_Value_Same.calls kj39 t496 x519001_39 x519002_31 x519003_12 _ _ t500 _ _ t503 t496 t497 t498 t499 _ _ t500 _ _ t503 true _ ?side1 ?side2 ?side3 ?side4 ?side5 ?side6 ?side7 ?side8 A52.out).mono ?_
              (case side1=>repeat (first|exact (Kd.V_reads' HO_519004.out).2.2|(with_reducible refine Kd.C_alloc ?_ _)|(with_reducible refine Kd.C_drewN ?_ _)|(with_reducible refine Kd.C_drew ?_)))
              (case side2=>exact (Kd.V_reads' HO_519004.out).2.1)
              (case side3=>repeat (first|exact (Kd.V_reads' HO_519005.out).2.2|(with_reducible refine Kd.C_alloc ?_ _)|(with_reducible refine Kd.C_drewN ?_ _)|(with_reducible refine Kd.C_drew ?_)))
              (case side4=>exact (Kd.V_reads' HO_519005.out).2.1)
              (case side5=>repeat (first|exact (Kd.V_reads' HO_517004.out).2.2|(with_reducible refine Kd.C_alloc ?_ _)|(with_reducible refine Kd.C_drewN ?_ _)|(with_reducible refine Kd.C_drew ?_)))
              (case side6=>exact (Kd.V_reads' HO_517004.out).2.1)
              (case side7=>repeat (first|exact (Kd.V_reads' HO_517005.out).2.2|(with_reducible refine Kd.C_alloc ?_ _)|(with_reducible refine Kd.C_drewN ?_ _)|(with_reducible refine Kd.C_drew ?_)))
              (case side8=>exact (Kd.V_reads' HO_517005.out).2.1)
              rintro e w62 ⟨rfl,hb⟩
              refine ⟨_,rfl,?_⟩
              have n0_:=Aside0.mk (Kd.V_below (by (with_reducible repeat (first|apply Kd.V_alloc|apply Kd.V_drewN|apply Kd.V_drew));exact HO_517004.out) hb)
              have n1_:=Aside0.mk (Kd.V_below (by (with_reducible repeat (first|apply Kd.V_alloc|apply Kd.V_drewN|apply Kd.V_drew));exact HO_517005.out) hb)
              have n2_:=Aside0.mk (Kd.V_below (by (with_reducible repeat (first|apply Kd.V_alloc|apply Kd.V_drewN|apply Kd.V_drew));exact HO_518004.out) hb)
              have n3_:=Aside0.mk (Kd.V_below (by (with_reducible repeat (first|apply Kd.V_alloc|apply Kd.V_drewN|apply Kd.V_drew));exact HO_518005.out) hb)
              have n4_:=Aside0.mk (Kd.V_below (by (with_reducible repeat (first|apply Kd.V_alloc|apply Kd.V_drewN|apply Kd.V_drew));exact HO_519004.out) hb)
              have n5_:=Aside0.mk (Kd.V_below (by (with_reducible repeat (first|apply Kd.V_alloc|apply Kd.V_drewN|apply Kd.V_drew));exact HO_519005.out) hb)
              have n6_:=Aside0.mk (blk_below (g:=gb516) (o:=.cells #[.int .i64 t496,.bool t497,.int .i64 t498,.string t499,.slice Ao19 t500.length co19,.slice Ao20 t503.length co20] 29 (0,0)) (by (with_reducible repeat (first|apply blk_drewN|apply blk_drew|apply blk_alloc));exact BK516.out) hb)
              have n7_:=Aside0.mk (blk_below (g:=gb517) (o:=.cells #[.int .i64 t506,.bool t507,.int .i64 t508,.string t509,.slice Ao22 t510.length co22,.slice Ao23 t513.length co23] 33 (0,0)) (by (with_reducible repeat (first|apply blk_drewN|apply blk_drew|apply blk_alloc));exact BK517.out) hb)
              have n8_:=Aside0.mk (blk_below (g:=gb518) (o:=.cells #[.int .i64 t496,.bool x519001_39,.int .i64 x519002_31,.string x519003_12,.slice Ao19 t500.length co19,.slice Ao20 t503.length co20] 29 (0,0)) (by (with_reducible repeat (first|apply blk_drewN|apply blk_drew|apply blk_alloc));exact BK518.out) hb)
              have n9_:=Aside0.mk (below_step (by repeat (first|(with_reducible first|exact HB.out|apply below_alloc|apply pw_below_drewN|apply below_drew1|refine below_set ?_ GE516.out|refine below_set ?_ GE517.out|refine below_set ?_ GE518.out)|exact HB.out)) hb)
              clear HO_517004
              clear HO_517005
              clear HO_518004
              clear HO_518005
              clear HO_519004
              clear HO_519005
              clear BK516
              clear BK517
              clear BK518
              clear HB
              have HO_517004:=n0_
              have HO_517005:=n1_
              have HO_518004:=n2_
              have HO_518005:=n3_
              have HO_519004:=n4_
              have HO_519005:=n5_
              have BK516:=n6_
              have BK517:=n7_
              have BK518:=n8_
              have HB:=n9_
              clear n0_ n1_ n2_ n3_ n4_ n5_ n6_ n7_ n8_ n9_
              (try clear hb)
              (try clear hb2)
              (try clear hk)
              (try clear hi)
              refine hK.out _ _ ⟨(blk_cell BK516.out 0).trans rfl,(blk_cell BK516.out 1).trans rfl,(blk_cell BK516.out 2).trans rfl,(blk_cell BK516.out 3).trans rfl,(blk_cell BK516.out 4).trans rfl,(blk_cell BK516.out 5).trans rfl,(blk_cell BK518.out 0).trans rfl,(blk_cell BK518.out 1).trans rfl,(blk_cell BK518.out 2).trans rfl,(blk_cell BK518.out 3).trans rfl,(blk_cell BK518.out 4).trans rfl,(blk_cell BK518.out 5).trans rfl⟩ (fun hHeld=>?_)
              clear hK K
              refine norm_ (a':=?_) ?_ ?_
              rotate_left
              ·show Act.put _ (some 51) _ = _
               simp only [Act.put,List.setIfInBounds_toArray,List.set_cons_zero,List.set_cons_succ,i64_w,i32_w]
               rfl
              refine pure_ (i:=10) (N:=some 52) (v:=?_) (a':=?_) #[true,true,true,true,true,true,true,true,true,true,true,false,false,false,false,false,false,false,false,false,false,false,false,false,false,false] rfl rfl (any_of HT_.out (by kernel_rfl)) (fun _ _ _ h=>h) (Or.inl ⟨by rfl,?_⟩) ?_ ?_
              rotate_left
              ·intro w'
               go_simp
               with_reducible rfl
              rotate_left
              ·simp only [Act.put,List.setIfInBounds_toArray,List.set_cons_zero,List.set_cons_succ,i64_w,i32_w]
               rfl
              refine pure_ (i:=11) (N:=some 53) (v:=?_) (a':=?_) #[true,true,true,true,true,true,true,true,true,true,true,true,false,false,false,false,false,false,false,false,false,false,false,false,false,false] rfl rfl (any_of HT_.out (by kernel_rfl)) (fun _ _ _ h=>h) (Or.inl ⟨by rfl,?_⟩) ?_ ?_
              rotate_left
              ·intro w'
               go_simp
               with_reducible rfl
              rotate_left
              ·simp only [Act.put,List.setIfInBounds_toArray,List.set_cons_zero,List.set_cons_succ,i64_w,i32_w]
               rfl
              refine take_ (i:=12) (N:=some 54) (v:=?_) (a':=?_) #[true,true,true,true,true,true,true,true,true,true,true,true,true,false,false,false,false,false,false,false,false,false,false,false,false,false] rfl rfl (take_ofW HT_.out HW_.out (by kernel_rfl)) (fun _ _ _ h=>h) (Or.inl ⟨by rfl,?_⟩) hHeld ?_ ?_
              rotate_left
              ·rintro w' ⟨s0,s1,s2,s3,s4,s5,s6,s7,s8,s9,s10,s11⟩
               go_simp
               with_reducible rfl
              rotate_left
              ·simp only [Act.put,List.setIfInBounds_toArray,List.set_cons_zero,List.set_cons_succ,i64_w,i32_w]
               rfl
              refine take_ (i:=14) (N:=some 56) (v:=?_) (a':=?_) #[true,true,true,true,true,true,true,true,true,true,true,true,true,false,true,false,false,false,false,false,false,false,false,false,false,false] rfl rfl (take_ofW HT_.out HW_.out (by kernel_rfl)) (fun _ _ _ h=>h) (Or.inl ⟨by rfl,?_⟩) hHeld ?_ ?_
              rotate_left
              ·rintro w' ⟨s0,s1,s2,s3,s4,s5,s6,s7,s8,s9,s10,s11⟩
               go_simp
               with_reducible rfl
              rotate_left
              ·simp only [Act.put,List.setIfInBounds_toArray,List.set_cons_zero,List.set_cons_succ,i64_w,i32_w]
               rfl
              refine one_ (i:=13) (N:=some 55) #[true,true,true,true,true,true,true,true,true,true,true,true,true,true,true,false,false,false,false,false,false,false,false,false,false,false] rfl rfl (one_of HT_.out (by kernel_rfl)) (by decide) (fun K hK=>?_)
              refine goes_ Tryd.func20 (by kernel_rfl) rfl #[.agg #[.int .i64 t496,.bool t497,.int .i64 t498,.string t499,.slice Ao19 t500.length co19,.slice Ao20 t503.length co20]] (by rfl) rfl rfl (by (try simp only [List.map_toArray,List.map_cons,List.map_nil]);first|done|rfl|(simp only [List.length_drop,List.length_take];rfl)) ?_
              with_reducible refine (value_Value_Check.calls kj39 t496 t497 t498 t499 _ _ t500 _ _ t503 t522 _ ?side1 ?side2 ?side3 ?side4 A54.out (by first|assumption|exact GW.below hG (by first|exact HB.out|assumption|(repeat (first|(with_reducible first|exact HB.out|apply below_alloc|apply pw_below_drewN|apply below_drew1)|exact HB.out)))|exact GW.drawn hG (by first|assumption|(repeat (first|exact Drawn0.refl _|assumption|apply Drawn0.step))))).mono ?_
              (case side1=>repeat (first|exact (Kd.V_reads' HO_517004.out).2.2|(with_reducible refine Kd.C_alloc ?_ _)|(with_reducible refine Kd.C_drewN ?_ _)|(with_reducible refine Kd.C_drew ?_)))
              (case side2=>exact (Kd.V_reads' HO_517004.out).2.1)
              (case side3=>repeat (first|exact (Kd.V_reads' HO_517005.out).2.2|(with_reducible refine Kd.C_alloc ?_ _)|(with_reducible refine Kd.C_drewN ?_ _)|(with_reducible refine Kd.C_drew ?_)))
              (case side4=>exact (Kd.V_reads' HO_517005.out).2.1)
              rintro e w63 ⟨rfl,hb⟩
              refine ⟨_,rfl,?_⟩
              have n0_:=Aside0.mk (Kd.V_below (by (with_reducible repeat (first|apply Kd.V_alloc|apply Kd.V_drewN|apply Kd.V_drew));exact HO_517004.out) hb)
              have n1_:=Aside0.mk (Kd.V_below (by (with_reducible repeat (first|apply Kd.V_alloc|apply Kd.V_drewN|apply Kd.V_drew));exact HO_517005.out) hb)
              have n2_:=Aside0.mk (Kd.V_below (by (with_reducible repeat (first|apply Kd.V_alloc|apply Kd.V_drewN|apply Kd.V_drew));exact HO_518004.out) hb)
              have n3_:=Aside0.mk (Kd.V_below (by (with_reducible repeat (first|apply Kd.V_alloc|apply Kd.V_drewN|apply Kd.V_drew));exact HO_518005.out) hb)
              have n4_:=Aside0.mk (Kd.V_below (by (with_reducible repeat (first|apply Kd.V_alloc|apply Kd.V_drewN|apply Kd.V_drew));exact HO_519004.out) hb)
              have n5_:=Aside0.mk (Kd.V_below (by (with_reducible repeat (first|apply Kd.V_alloc|apply Kd.V_drewN|apply Kd.V_drew));exact HO_519005.out) hb)
              have n6_:=Aside0.mk (blk_below (g:=gb516) (o:=.cells #[.int .i64 t496,.bool t497,.int .i64 t498,.string t499,.slice Ao19 t500.length co19,.slice Ao20 t503.length co20] 29 (0,0)) (by (with_reducible repeat (first|apply blk_drewN|apply blk_drew|apply blk_alloc));exact BK516.out) hb)
              have n7_:=Aside0.mk (blk_below (g:=gb517) (o:=.cells #[.int .i64 t506,.bool t507,.int .i64 t508,.string t509,.slice Ao22 t510.length co22,.slice Ao23 t513.length co23] 33 (0,0)) (by (with_reducible repeat (first|apply blk_drewN|apply blk_drew|apply blk_alloc));exact BK517.out) hb)
              have n8_:=Aside0.mk (blk_below (g:=gb518) (o:=.cells #[.int .i64 t496,.bool x519001_39,.int .i64 x519002_31,.string x519003_12,.slice Ao19 t500.length co19,.slice Ao20 t503.length co20] 29 (0,0)) (by (with_reducible repeat (first|apply blk_drewN|apply blk_drew|apply blk_alloc));exact BK518.out) hb)
              have n9_:=Aside0.mk (below_step (by repeat (first|(with_reducible first|exact HB.out|apply below_alloc|apply pw_below_drewN|apply below_drew1|refine below_set ?_ GE516.out|refine below_set ?_ GE517.out|refine below_set ?_ GE518.out)|exact HB.out)) hb)
              clear HO_517004
              clear HO_517005
              clear HO_518004
              clear HO_518005
              clear HO_519004
              clear HO_519005
              clear BK516
              clear BK517
              clear BK518
              clear HB
              have HO_517004:=n0_
              have HO_517005:=n1_
              have HO_518004:=n2_
              have HO_518005:=n3_
              have HO_519004:=n4_
              have HO_519005:=n5_
              have BK516:=n6_
              have BK517:=n7_
              have BK518:=n8_
              have HB:=n9_
              clear n0_ n1_ n2_ n3_ n4_ n5_ n6_ n7_ n8_ n9_
              (try clear hb)
              (try clear hb2)
              (try clear hk)
              (try clear hi)
              refine hK.out _ _ ⟨(blk_cell BK516.out 0).trans rfl,(blk_cell BK516.out 1).trans rfl,(blk_cell BK516.out 2).trans rfl,(blk_cell BK516.out 3).trans rfl,(blk_cell BK516.out 4).trans rfl,(blk_cell BK516.out 5).trans rfl,(blk_cell BK518.out 0).trans rfl,(blk_cell BK518.out 1).trans rfl,(blk_cell BK518.out 2).trans rfl,(blk_cell BK518.out 3).trans rfl,(blk_cell BK518.out 4).trans rfl,(blk_cell BK518.out 5).trans rfl⟩ (fun hHeld=>?_)
              clear hK K
              refine norm_ (a':=?_) ?_ ?_
              rotate_left
              ·show Act.put _ (some 55) _ = _
               simp only [Act.put,List.setIfInBounds_toArray,List.set_cons_zero,List.set_cons_succ,i64_w,i32_w]
               rfl
              refine one_ (i:=15) (N:=some 57) #[true,true,true,true,true,true,true,true,true,true,true,true,true,true,true,true,false,false,false,false,false,false,false,false,false,false] rfl rfl (one_of HT_.out (by kernel_rfl)) (by decide) (fun K hK=>?_)
              refine goes_ Tryd.func20 (by kernel_rfl) rfl #[.agg #[.int .i64 t496,.bool x519001_39,.int .i64 x519002_31,.string x519003_12,.slice Ao19 t500.length co19,.slice Ao20 t503.length co20]] (by rfl) rfl rfl (by (try simp only [List.map_toArray,List.map_cons,List.map_nil]);first|done|rfl|(simp only [List.length_drop,List.length_take];rfl)) ?_
              with_reducible refine (value_Value_Check.calls kj39 t496 x519001_39 x519002_31 x519003_12 _ _ t500 _ _ t503 t523 _ ?side1 ?side2 ?side3 ?side4 A55.out (by first|assumption|exact GW.below hG (by first|exact HB.out|assumption|(repeat (first|(with_reducible first|exact HB.out|apply below_alloc|apply pw_below_drewN|apply below_drew1)|exact HB.out)))|exact GW.drawn hG (by first|assumption|(repeat (first|exact Drawn0.refl _|assumption|apply Drawn0.step))))).mono ?_
              (case side1=>repeat (first|exact (Kd.V_reads' HO_519004.out).2.2|(with_reducible refine Kd.C_alloc ?_ _)|(with_reducible refine Kd.C_drewN ?_ _)|(with_reducible refine Kd.C_drew ?_)))
              (case side2=>exact (Kd.V_reads' HO_519004.out).2.1)
              (case side3=>repeat (first|exact (Kd.V_reads' HO_519005.out).2.2|(with_reducible refine Kd.C_alloc ?_ _)|(with_reducible refine Kd.C_drewN ?_ _)|(with_reducible refine Kd.C_drew ?_)))
              (case side4=>exact (Kd.V_reads' HO_519005.out).2.1)
              rintro e w64 ⟨rfl,hb⟩
              refine ⟨_,rfl,?_⟩
              have n0_:=Aside0.mk (Kd.V_below (by (with_reducible repeat (first|apply Kd.V_alloc|apply Kd.V_drewN|apply Kd.V_drew));exact HO_517004.out) hb)
              have n1_:=Aside0.mk (Kd.V_below (by (with_reducible repeat (first|apply Kd.V_alloc|apply Kd.V_drewN|apply Kd.V_drew));exact HO_517005.out) hb)
              have n2_:=Aside0.mk (Kd.V_below (by (with_reducible repeat (first|apply Kd.V_alloc|apply Kd.V_drewN|apply Kd.V_drew));exact HO_518004.out) hb)
              have n3_:=Aside0.mk (Kd.V_below (by (with_reducible repeat (first|apply Kd.V_alloc|apply Kd.V_drewN|apply Kd.V_drew));exact HO_518005.out) hb)
              have n4_:=Aside0.mk (Kd.V_below (by (with_reducible repeat (first|apply Kd.V_alloc|apply Kd.V_drewN|apply Kd.V_drew));exact HO_519004.out) hb)
              have n5_:=Aside0.mk (Kd.V_below (by (with_reducible repeat (first|apply Kd.V_alloc|apply Kd.V_drewN|apply Kd.V_drew));exact HO_519005.out) hb)
              have n6_:=Aside0.mk (blk_below (g:=gb516) (o:=.cells #[.int .i64 t496,.bool t497,.int .i64 t498,.string t499,.slice Ao19 t500.length co19,.slice Ao20 t503.length co20] 29 (0,0)) (by (with_reducible repeat (first|apply blk_drewN|apply blk_drew|apply blk_alloc));exact BK516.out) hb)
              have n7_:=Aside0.mk (blk_below (g:=gb517) (o:=.cells #[.int .i64 t506,.bool t507,.int .i64 t508,.string t509,.slice Ao22 t510.length co22,.slice Ao23 t513.length co23] 33 (0,0)) (by (with_reducible repeat (first|apply blk_drewN|apply blk_drew|apply blk_alloc));exact BK517.out) hb)
              have n8_:=Aside0.mk (blk_below (g:=gb518) (o:=.cells #[.int .i64 t496,.bool x519001_39,.int .i64 x519002_31,.string x519003_12,.slice Ao19 t500.length co19,.slice Ao20 t503.length co20] 29 (0,0)) (by (with_reducible repeat (first|apply blk_drewN|apply blk_drew|apply blk_alloc));exact BK518.out) hb)
              have n9_:=Aside0.mk (below_step (by repeat (first|(with_reducible first|exact HB.out|apply below_alloc|apply pw_below_drewN|apply below_drew1|refine below_set ?_ GE516.out|refine below_set ?_ GE517.out|refine below_set ?_ GE518.out)|exact HB.out)) hb)
              clear HO_517004
              clear HO_517005
              clear HO_518004
              clear HO_518005
              clear HO_519004
              clear HO_519005
              clear BK516
              clear BK517
              clear BK518
              clear HB
              have HO_517004:=n0_
              have HO_517005:=n1_
              have HO_518004:=n2_
              have HO_518005:=n3_
              have HO_519004:=n4_
              have HO_519005:=n5_
              have BK516:=n6_
              have BK517:=n7_
              have BK518:=n8_
              have HB:=n9_
              clear n0_ n1_ n2_ n3_ n4_ n5_ n6_ n7_ n8_ n9_
              (try clear hb)
              (try clear hb2)
              (try clear hk)
              (try clear hi)
              refine hK.out _ _ ⟨(blk_cell BK516.out 0).trans rfl,(blk_cell BK516.out 1).trans rfl,(blk_cell BK516.out 2).trans rfl,(blk_cell BK516.out 3).trans rfl,(blk_cell BK516.out 4).trans rfl,(blk_cell BK516.out 5).trans rfl,(blk_cell BK518.out 0).trans rfl,(blk_cell BK518.out 1).trans rfl,(blk_cell BK518.out 2).trans rfl,(blk_cell BK518.out 3).trans rfl,(blk_cell BK518.out 4).trans rfl,(blk_cell BK518.out 5).trans rfl⟩ (fun hHeld=>?_)
              clear hK K
              refine norm_ (a':=?_) ?_ ?_
              rotate_left
              ·show Act.put _ (some 57) _ = _
               simp only [Act.put,List.setIfInBounds_toArray,List.set_cons_zero,List.set_cons_succ,i64_w,i32_w]
               rfl
              refine pure_ (i:=16) (N:=some 58) (v:=?_) (a':=?_) #[true,true,true,true,true,true,true,true,true,true,true,true,true,true,true,true,true,false,false,false,false,false,false,false,false,false] rfl rfl (any_of HT_.out (by kernel_rfl)) (fun _ _ _ h=>h) (Or.inl ⟨by rfl,?_⟩) ?_ ?_
              rotate_left
              ·intro w'
               go_simp
               with_reducible rfl
              rotate_left
              ·simp only [Act.put,List.setIfInBounds_toArray,List.set_cons_zero,List.set_cons_succ,i64_w,i32_w]
               rfl
              refine pure_ (i:=17) (N:=some 59) (v:=?_) (a':=?_) #[true,true,true,true,true,true,true,true,true,true,true,true,true,true,true,true,true,true,false,false,false,false,false,false,false,false] rfl rfl (any_of HT_.out (by kernel_rfl)) (fun _ _ _ h=>h) (Or.inl ⟨by rfl,?_⟩) ?_ ?_
              rotate_left
              ·intro w'
               go_simp
               with_reducible rfl
              rotate_left
              ·simp only [Act.put,List.setIfInBounds_toArray,List.set_cons_zero,List.set_cons_succ,i64_w,i32_w]
               rfl
              refine pure_ (i:=18) (N:=some 60) (v:=?_) (a':=?_) #[true,true,true,true,true,true,true,true,true,true,true,true,true,true,true,true,true,true,true,false,false,false,false,false,false,false] rfl rfl (any_of HT_.out (by kernel_rfl)) (fun _ _ _ h=>h) (Or.inl ⟨by rfl,?_⟩) ?_ ?_
              rotate_left
              ·intro w'
               go_simp
               with_reducible rfl
              rotate_left
              ·simp only [Act.put,List.setIfInBounds_toArray,List.set_cons_zero,List.set_cons_succ,i64_w,i32_w]
               rfl
              refine take_ (i:=19) (N:=some 61) (v:=?_) (a':=?_) #[true,true,true,true,true,true,true,true,true,true,true,true,true,true,true,true,true,true,true,true,false,false,false,false,false,false] rfl rfl (take_ofW HT_.out HW_.out (by kernel_rfl)) (fun _ _ _ h=>h) (Or.inl ⟨by rfl,?_⟩) hHeld ?_ ?_
              rotate_left
              ·rintro w' ⟨s0,s1,s2,s3,s4,s5,s6,s7,s8,s9,s10,s11⟩
               go_simp
               with_reducible rfl
              rotate_left
              ·simp only [Act.put,List.setIfInBounds_toArray,List.set_cons_zero,List.set_cons_succ,i64_w,i32_w]
               rfl
              refine take_ (i:=21) (N:=some 63) (v:=?_) (a':=?_) #[true,true,true,true,true,true,true,true,true,true,true,true,true,true,true,true,true,true,true,true,false,true,false,false,false,false] rfl rfl (take_ofW HT_.out HW_.out (by kernel_rfl)) (fun _ _ _ h=>h) (Or.inl ⟨by rfl,?_⟩) hHeld ?_ ?_
              rotate_left
              ·rintro w' ⟨s0,s1,s2,s3,s4,s5,s6,s7,s8,s9,s10,s11⟩
               go_simp
               with_reducible rfl
              rotate_left
              ·simp only [Act.put,List.setIfInBounds_toArray,List.set_cons_zero,List.set_cons_succ,i64_w,i32_w]
               rfl
              refine one_ (i:=20) (N:=some 62) #[true,true,true,true,true,true,true,true,true,true,true,true,true,true,true,true,true,true,true,true,true,true,false,false,false,false] rfl rfl (one_of HT_.out (by kernel_rfl)) (by decide) (fun K hK=>?_)
              refine goes_ Tryd.func22 (by kernel_rfl) rfl #[.agg #[.int .i64 t496,.bool t497,.int .i64 t498,.string t499,.slice Ao19 t500.length co19,.slice Ao20 t503.length co20]] (by rfl) rfl rfl (by (try simp only [List.map_toArray,List.map_cons,List.map_nil]);first|done|rfl|(simp only [List.length_drop,List.length_take];rfl)) ?_
              with_reducible refine (value_Value_Depth.calls kj39 t496 t497 t498 t499 _ _ t500 _ _ t503 t524 _ ?side1 ?side2 ?side3 ?side4 A57.out).mono ?_
              (case side1=>repeat (first|exact (Kd.V_reads' HO_517004.out).2.2|(with_reducible refine Kd.C_alloc ?_ _)|(with_reducible refine Kd.C_drewN ?_ _)|(with_reducible refine Kd.C_drew ?_)))
              (case side2=>exact (Kd.V_reads' HO_517004.out).2.1)
              (case side3=>repeat (first|exact (Kd.V_reads' HO_517005.out).2.2|(with_reducible refine Kd.C_alloc ?_ _)|(with_reducible refine Kd.C_drewN ?_ _)|(with_reducible refine Kd.C_drew ?_)))
              (case side4=>exact (Kd.V_reads' HO_517005.out).2.1)
              rintro e w65 ⟨rfl,hb⟩
              refine ⟨_,rfl,?_⟩
              have n0_:=Aside0.mk (Kd.V_below (by (with_reducible repeat (first|apply Kd.V_alloc|apply Kd.V_drewN|apply Kd.V_drew));exact HO_517004.out) hb)
              have n1_:=Aside0.mk (Kd.V_below (by (with_reducible repeat (first|apply Kd.V_alloc|apply Kd.V_drewN|apply Kd.V_drew));exact HO_517005.out) hb)
              have n2_:=Aside0.mk (Kd.V_below (by (with_reducible repeat (first|apply Kd.V_alloc|apply Kd.V_drewN|apply Kd.V_drew));exact HO_518004.out) hb)
              have n3_:=Aside0.mk (Kd.V_below (by (with_reducible repeat (first|apply Kd.V_alloc|apply Kd.V_drewN|apply Kd.V_drew));exact HO_518005.out) hb)
              have n4_:=Aside0.mk (Kd.V_below (by (with_reducible repeat (first|apply Kd.V_alloc|apply Kd.V_drewN|apply Kd.V_drew));exact HO_519004.out) hb)
              have n5_:=Aside0.mk (Kd.V_below (by (with_reducible repeat (first|apply Kd.V_alloc|apply Kd.V_drewN|apply Kd.V_drew));exact HO_519005.out) hb)
              have n6_:=Aside0.mk (blk_below (g:=gb516) (o:=.cells #[.int .i64 t496,.bool t497,.int .i64 t498,.string t499,.slice Ao19 t500.length co19,.slice Ao20 t503.length co20] 29 (0,0)) (by (with_reducible repeat (first|apply blk_drewN|apply blk_drew|apply blk_alloc));exact BK516.out) hb)
              have n7_:=Aside0.mk (blk_below (g:=gb517) (o:=.cells #[.int .i64 t506,.bool t507,.int .i64 t508,.string t509,.slice Ao22 t510.length co22,.slice Ao23 t513.length co23] 33 (0,0)) (by (with_reducible repeat (first|apply blk_drewN|apply blk_drew|apply blk_alloc));exact BK517.out) hb)
              have n8_:=Aside0.mk (blk_below (g:=gb518) (o:=.cells #[.int .i64 t496,.bool x519001_39,.int .i64 x519002_31,.string x519003_12,.slice Ao19 t500.length co19,.slice Ao20 t503.length co20] 29 (0,0)) (by (with_reducible repeat (first|apply blk_drewN|apply blk_drew|apply blk_alloc));exact BK518.out) hb)
              have n9_:=Aside0.mk (below_step (by repeat (first|(with_reducible first|exact HB.out|apply below_alloc|apply pw_below_drewN|apply below_drew1|refine below_set ?_ GE516.out|refine below_set ?_ GE517.out|refine below_set ?_ GE518.out)|exact HB.out)) hb)
              clear HO_517004
              clear HO_517005
              clear HO_518004
              clear HO_518005
              clear HO_519004
              clear HO_519005
              clear BK516
              clear BK517
              clear BK518
              clear HB
              have HO_517004:=n0_
              have HO_517005:=n1_
              have HO_518004:=n2_
              have HO_518005:=n3_
              have HO_519004:=n4_
              have HO_519005:=n5_
              have BK516:=n6_
              have BK517:=n7_
              have BK518:=n8_
              have HB:=n9_
              clear n0_ n1_ n2_ n3_ n4_ n5_ n6_ n7_ n8_ n9_
              (try clear hb)
              (try clear hb2)
              (try clear hk)
              (try clear hi)
              refine hK.out _ _ ⟨(blk_cell BK516.out 0).trans rfl,(blk_cell BK516.out 1).trans rfl,(blk_cell BK516.out 2).trans rfl,(blk_cell BK516.out 3).trans rfl,(blk_cell BK516.out 4).trans rfl,(blk_cell BK516.out 5).trans rfl,(blk_cell BK518.out 0).trans rfl,(blk_cell BK518.out 1).trans rfl,(blk_cell BK518.out 2).trans rfl,(blk_cell BK518.out 3).trans rfl,(blk_cell BK518.out 4).trans rfl,(blk_cell BK518.out 5).trans rfl⟩ (fun hHeld=>?_)
              clear hK K
              refine norm_ (a':=?_) ?_ ?_
              rotate_left
              ·show Act.put _ (some 62) _ = _
               simp only [Act.put,List.setIfInBounds_toArray,List.set_cons_zero,List.set_cons_succ,i64_w,i32_w]
               rfl
              refine one_ (i:=22) (N:=some 64) #[true,true,true,true,true,true,true,true,true,true,true,true,true,true,true,true,true,true,true,true,true,true,true,false,false,false] rfl rfl (one_of HT_.out (by kernel_rfl)) (by decide) (fun K hK=>?_)
              refine goes_ Tryd.func22 (by kernel_rfl) rfl #[.agg #[.int .i64 t496,.bool x519001_39,.int .i64 x519002_31,.string x519003_12,.slice Ao19 t500.length co19,.slice Ao20 t503.length co20]] (by rfl) rfl rfl (by (try simp only [List.map_toArray,List.map_cons,List.map_nil]);first|done|rfl|(simp only [List.length_drop,List.length_take];rfl)) ?_
              with_reducible refine (value_Value_Depth.calls kj39 t496 x519001_39 x519002_31 x519003_12 _ _ t500 _ _ t503 t525 _ ?side1 ?side2 ?side3 ?side4 A58.out).mono ?_
              (case side1=>repeat (first|exact (Kd.V_reads' HO_519004.out).2.2|(with_reducible refine Kd.C_alloc ?_ _)|(with_reducible refine Kd.C_drewN ?_ _)|(with_reducible refine Kd.C_drew ?_)))
              (case side2=>exact (Kd.V_reads' HO_519004.out).2.1)
              (case side3=>repeat (first|exact (Kd.V_reads' HO_519005.out).2.2|(with_reducible refine Kd.C_alloc ?_ _)|(with_reducible refine Kd.C_drewN ?_ _)|(with_reducible refine Kd.C_drew ?_)))
              (case side4=>exact (Kd.V_reads' HO_519005.out).2.1)
              rintro e w66 ⟨rfl,hb⟩
              refine ⟨_,rfl,?_⟩
              have n0_:=Aside0.mk (Kd.V_below (by (with_reducible repeat (first|apply Kd.V_alloc|apply Kd.V_drewN|apply Kd.V_drew));exact HO_517004.out) hb)
              have n1_:=Aside0.mk (Kd.V_below (by (with_reducible repeat (first|apply Kd.V_alloc|apply Kd.V_drewN|apply Kd.V_drew));exact HO_517005.out) hb)
              have n2_:=Aside0.mk (Kd.V_below (by (with_reducible repeat (first|apply Kd.V_alloc|apply Kd.V_drewN|apply Kd.V_drew));exact HO_518004.out) hb)
              have n3_:=Aside0.mk (Kd.V_below (by (with_reducible repeat (first|apply Kd.V_alloc|apply Kd.V_drewN|apply Kd.V_drew));exact HO_518005.out) hb)
              have n4_:=Aside0.mk (Kd.V_below (by (with_reducible repeat (first|apply Kd.V_alloc|apply Kd.V_drewN|apply Kd.V_drew));exact HO_519004.out) hb)
              have n5_:=Aside0.mk (Kd.V_below (by (with_reducible repeat (first|apply Kd.V_alloc|apply Kd.V_drewN|apply Kd.V_drew));exact HO_519005.out) hb)
              have n6_:=Aside0.mk (blk_below (g:=gb516) (o:=.cells #[.int .i64 t496,.bool t497,.int .i64 t498,.string t499,.slice Ao19 t500.length co19,.slice Ao20 t503.length co20] 29 (0,0)) (by (with_reducible repeat (first|apply blk_drewN|apply blk_drew|apply blk_alloc));exact BK516.out) hb)
              have n7_:=Aside0.mk (blk_below (g:=gb517) (o:=.cells #[.int .i64 t506,.bool t507,.int .i64 t508,.string t509,.slice Ao22 t510.length co22,.slice Ao23 t513.length co23] 33 (0,0)) (by (with_reducible repeat (first|apply blk_drewN|apply blk_drew|apply blk_alloc));exact BK517.out) hb)
              have n8_:=Aside0.mk (blk_below (g:=gb518) (o:=.cells #[.int .i64 t496,.bool x519001_39,.int .i64 x519002_31,.string x519003_12,.slice Ao19 t500.length co19,.slice Ao20 t503.length co20] 29 (0,0)) (by (with_reducible repeat (first|apply blk_drewN|apply blk_drew|apply blk_alloc));exact BK518.out) hb)
              have n9_:=Aside0.mk (below_step (by repeat (first|(with_reducible first|exact HB.out|apply below_alloc|apply pw_below_drewN|apply below_drew1|refine below_set ?_ GE516.out|refine below_set ?_ GE517.out|refine below_set ?_ GE518.out)|exact HB.out)) hb)
              clear HO_517004
              clear HO_517005
              clear HO_518004
              clear HO_518005
              clear HO_519004
              clear HO_519005
              clear BK516
              clear BK517
              clear BK518
              clear HB
              have HO_517004:=n0_
              have HO_517005:=n1_
              have HO_518004:=n2_
              have HO_518005:=n3_
              have HO_519004:=n4_
              have HO_519005:=n5_
              have BK516:=n6_
              have BK517:=n7_
              have BK518:=n8_
              have HB:=n9_
              clear n0_ n1_ n2_ n3_ n4_ n5_ n6_ n7_ n8_ n9_
              (try clear hb)
              (try clear hb2)
              (try clear hk)
              (try clear hi)
              refine hK.out _ _ ⟨(blk_cell BK516.out 0).trans rfl,(blk_cell BK516.out 1).trans rfl,(blk_cell BK516.out 2).trans rfl,(blk_cell BK516.out 3).trans rfl,(blk_cell BK516.out 4).trans rfl,(blk_cell BK516.out 5).trans rfl,(blk_cell BK518.out 0).trans rfl,(blk_cell BK518.out 1).trans rfl,(blk_cell BK518.out 2).trans rfl,(blk_cell BK518.out 3).trans rfl,(blk_cell BK518.out 4).trans rfl,(blk_cell BK518.out 5).trans rfl⟩ (fun hHeld=>?_)
              clear hK K
              refine norm_ (a':=?_) ?_ ?_
              rotate_left
              ·show Act.put _ (some 64) _ = _
               simp only [Act.put,List.setIfInBounds_toArray,List.set_cons_zero,List.set_cons_succ,i64_w,i32_w]
               rfl
              refine pure_ (i:=23) (N:=some 65) (v:=?_) (a':=?_) #[true,true,true,true,true,true,true,true,true,true,true,true,true,true,true,true,true,true,true,true,true,true,true,true,false,false] rfl rfl (any_of HT_.out (by kernel_rfl)) (fun _ _ _ h=>h) (Or.inl ⟨by rfl,?_⟩) ?_ ?_
              rotate_left
              ·intro w'
               go_simp
               with_reducible rfl
              rotate_left
              ·simp only [Act.put,List.setIfInBounds_toArray,List.set_cons_zero,List.set_cons_succ,i64_w,i32_w]
               rfl
              refine pure_ (i:=24) (N:=some 66) (v:=?_) (a':=?_) #[true,true,true,true,true,true,true,true,true,true,true,true,true,true,true,true,true,true,true,true,true,true,true,true,true,false] rfl rfl (any_of HT_.out (by kernel_rfl)) (fun _ _ _ h=>h) (Or.inl ⟨by rfl,?_⟩) ?_ ?_
              rotate_left
              ·intro w'
               go_simp
               with_reducible rfl
              rotate_left
              ·simp only [Act.put,List.setIfInBounds_toArray,List.set_cons_zero,List.set_cons_succ,i64_w,i32_w]
               rfl
              refine pure_ (i:=25) (N:=some 6) (v:=?_) (a':=?_) #[true,true,true,true,true,true,true,true,true,true,true,true,true,true,true,true,true,true,true,true,true,true,true,true,true,true] rfl rfl (any_of HT_.out (by kernel_rfl)) (fun _ _ _ h=>h) (Or.inl ⟨by rfl,?_⟩) ?_ ?_
              rotate_left
              ·intro w'
               go_simp
               with_reducible rfl
              rotate_left
              ·simp only [Act.put,List.setIfInBounds_toArray,List.set_cons_zero,List.set_cons_succ,i64_w,i32_w]
               rfl
              refine done_ (done_of HT_.out (by kernel_rfl)) ?_
              try go_wp2
              go_ret
              exact ⟨by first|rfl|(simp [errW_none,errW_some] <;> rfl)|(simp [*,errW_none,errW_some] <;> rfl),by repeat (first|(with_reducible first|exact HB.out|apply below_alloc|apply pw_below_drewN|apply below_drew1|refine below_set ?_ GE516.out|refine below_set ?_ GE517.out|refine below_set ?_ GE518.out)|exact HB.out)⟩
             ·rw [if_neg c56] at H
              have c56b0 : (t522 == t523) = false:=beq_eq_false_iff_ne.mpr c56
              have c56b1 : (t522 != t523) = true:=bne_iff_ne.mpr c56
              exact absurd ((Option.some.inj H).trans HTr.out) (by decide)
            ·replace c53:=Bool.eq_false_iff.mpr c53
             subst c53
             have H1 : (some false) = some r:=by rw [if_neg (show ¬ (false = true) by decide)] at H;exact H
             clear H
             have H:=H1
             clear H1
             exact absurd ((Option.some.inj H).trans HTr.out) (by decide)
           ·replace c51:=Bool.eq_false_iff.mpr c51
            subst c51
            have H1 : (some false) = some r:=by rw [if_neg (show ¬ (false = true) by decide)] at H;exact H
            clear H
            have H:=H1
            clear H1
            exact absurd ((Option.some.inj H).trans HTr.out) (by decide)
          ·replace c49:=Bool.eq_false_iff.mpr c49
           subst c49
           have H1 : (some false) = some r:=by rw [if_neg (show ¬ (false = true) by decide)] at H;exact H
           clear H
           have H:=H1
           clear H1
           exact absurd ((Option.some.inj H).trans HTr.out) (by decide)
end Go.Proofs.YtnkkbiabloodaaaDoor.GVa
