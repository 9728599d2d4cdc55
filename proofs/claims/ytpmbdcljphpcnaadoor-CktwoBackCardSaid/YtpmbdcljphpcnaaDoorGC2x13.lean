/- Written by this session's own program (wip/gen.py) out of the translation: plain Lean functions of the Go functions, and proofs that the calls come to their answers. No conditions beside those in the statements. -/
import Derived.Test.YtpmbdcljphpcnaaDoorGC2x0
import Derived.Test.YtpmbdcljphpcnaaDoorGC2x1
import Derived.Test.YtpmbdcljphpcnaaDoorGC2x10
import Derived.Test.YtpmbdcljphpcnaaDoorGC2x11
import Derived.Test.YtpmbdcljphpcnaaDoorGC2Decode
import Derived.Test.YtpmbdcljphpcnaaDoorGC2Encode
import Derived.Test.YtpmbdcljphpcnaaDoorGC2RSame
namespace Go.Proofs.YtpmbdcljphpcnaaDoor.GC2
open Go.RowKit Go.Proofs.YtpmbdcljphpcnaaDoorW.PrintWords Go.Proofs.YtpmbdcljphpcnaaDoorW.PrintLast Go.Proofs.YtpmbdcljphpcnaaDoorW.PrintMore
attribute [local go_sem] max2_int min2_int max_two min_two max_three min_three max_four min_four   -- for this text's walks alone
set_option linter.unusedVariables false
set_option linter.unusedSimpArgs false

/-! ### bosunlaw18_CktwoBack: function 8 -/
mutual
def bosunlaw18_CktwoBack.j0 : Nat → ByteArray → Bool → Int → List (S98) → Option (Bool)
 | 0,_,_,_,_=>none
 | k + 1,x1,x19,x190000,x190001=>if x19 = true then ((bosunlaw18_Awake.f k).bind fun t191=>(some t191)) else ((cktwo_Encode.f k x190000 x190001).bind fun bt192=>(if bt192.2 = 0 then ((cktwo_Decode.f k bt192.1).bind fun bt194=>(if bt194.2.2 = 0 then ((bosunlaw18_Of.f k bt194.1 bt194.2.1).bind fun bt200=>((bosunlaw18_Of.f k x190000 x190001).bind fun bt204=>((bosunref18_Same.f bt200.1 bt200.2 bt204.1 bt204.2).bind fun t208=>(if t208 = true then (bosunlaw18_CktwoBack.j1 k x1) else (some false))))) else (some false))) else (bosunlaw18_CktwoBack.j1 k x1)))
def bosunlaw18_CktwoBack.j1 : Nat → ByteArray → Option (Bool)
 | 0,_=>none
 | k + 1,x1=>(cktwo_Decode.f k x1).bind fun bt209=>(if bt209.2.2 = 0 then ((cktwo_Encode.f k bt209.1 bt209.2.1).bind fun bt215=>((bosunlaw18_Awake.f k).bind fun t217=>(if t217 = true then (if bt215.2 = 0 then (some (bt215.1.toList == x1.toList)) else (some false)) else (some false)))) else ((bosunlaw18_Awake.f k).bind fun t218=>(if t218 = true then (if bt209.1 = 0 then (some ((bt209.2.1.length : Int) == 0)) else (some false)) else (some false))))
end
def bosunlaw18_CktwoBack.f (k : Nat) (a0_0 : Int) (l0_1 : List (S98)) (a1 : ByteArray) : Option (Bool):=(bosunlaw18_Small.f k a0_0 l0_1).bind fun t190=>(if t190 = true then (bosunlaw18_CktwoBack.j0 k a1 (decide ((a1.size : Int) > 20000)) a0_0 l0_1) else (bosunlaw18_CktwoBack.j0 k a1 true a0_0 l0_1))
theorem bosunlaw18_CktwoBack.mono_l : ∀ k,(∀ y0 y1 y2 y3,LeO (bosunlaw18_CktwoBack.j0 k y0 y1 y2 y3) (bosunlaw18_CktwoBack.j0 (k + 1) y0 y1 y2 y3)) ∧ (∀ y0,LeO (bosunlaw18_CktwoBack.j1 k y0) (bosunlaw18_CktwoBack.j1 (k + 1) y0))
 | 0=>⟨fun _ _ _ _ r h=>by simp [bosunlaw18_CktwoBack.j0] at h,fun _ r h=>by simp [bosunlaw18_CktwoBack.j1] at h⟩
 | k + 1=>by
  obtain ⟨ih0,ih1⟩:=bosunlaw18_CktwoBack.mono_l k
  refine ⟨?_,?_⟩
  ·intro y0 y1 y2 y3
   unfold bosunlaw18_CktwoBack.j0
   repeat' first
   | (with_reducible exact ih0 _ _ _ _)
   | (with_reducible exact ih1 _)
   | (with_reducible exact bosunlaw18_Awake.mono _)
   | (with_reducible exact bosunlaw18_Of.mono _ _ _)
   | (with_reducible exact bosunlaw18_Small.mono _ _ _)
   | (with_reducible exact cktwo_Decode.mono _ _)
   | (with_reducible exact cktwo_Encode.mono _ _ _)
   | (with_reducible exact LeO.refl _)
   | (with_reducible exact LeO.none _)
   | (with_reducible refine LeO.ite ?_ ?_)
   | (with_reducible refine LeO.bind ?_ (fun _=>?_))
   | exact ih0 _ _ _ _
   | exact ih1 _
   | exact bosunlaw18_Awake.mono _
   | exact bosunlaw18_Of.mono _ _ _
   | exact bosunlaw18_Small.mono _ _ _
   | exact cktwo_Decode.mono _ _
   | exact cktwo_Encode.mono _ _ _
   | exact LeO.none _
   | refine LeO.ite ?_ ?_
   | refine LeO.bind ?_ (fun _=>?_)
  ·intro y0
   unfold bosunlaw18_CktwoBack.j1
   repeat' first
   | (with_reducible exact ih0 _ _ _ _)
   | (with_reducible exact ih1 _)
   | (with_reducible exact bosunlaw18_Awake.mono _)
   | (with_reducible exact bosunlaw18_Of.mono _ _ _)
   | (with_reducible exact bosunlaw18_Small.mono _ _ _)
   | (with_reducible exact cktwo_Decode.mono _ _)
   | (with_reducible exact cktwo_Encode.mono _ _ _)
   | (with_reducible exact LeO.refl _)
   | (with_reducible exact LeO.none _)
   | (with_reducible refine LeO.ite ?_ ?_)
   | (with_reducible refine LeO.bind ?_ (fun _=>?_))
   | exact ih0 _ _ _ _
   | exact ih1 _
   | exact bosunlaw18_Awake.mono _
   | exact bosunlaw18_Of.mono _ _ _
   | exact bosunlaw18_Small.mono _ _ _
   | exact cktwo_Decode.mono _ _
   | exact cktwo_Encode.mono _ _ _
   | exact LeO.none _
   | refine LeO.ite ?_ ?_
   | refine LeO.bind ?_ (fun _=>?_)
theorem bosunlaw18_CktwoBack.mono : ∀ a0 a1 a2 k,LeO (bosunlaw18_CktwoBack.f k a0 a1 a2) (bosunlaw18_CktwoBack.f (k + 1) a0 a1 a2):=by
 intro a0 a1 a2 k
 obtain ⟨ih0,ih1⟩:=bosunlaw18_CktwoBack.mono_l k
 unfold bosunlaw18_CktwoBack.f
 repeat' first
   | (with_reducible exact ih0 _ _ _ _)
   | (with_reducible exact ih1 _)
   | (with_reducible exact bosunlaw18_Awake.mono _)
   | (with_reducible exact bosunlaw18_Of.mono _ _ _)
   | (with_reducible exact bosunlaw18_Small.mono _ _ _)
   | (with_reducible exact cktwo_Decode.mono _ _)
   | (with_reducible exact cktwo_Encode.mono _ _ _)
   | (with_reducible exact LeO.refl _)
   | (with_reducible exact LeO.none _)
   | (with_reducible refine LeO.ite ?_ ?_)
   | (with_reducible refine LeO.bind ?_ (fun _=>?_))
   | exact ih0 _ _ _ _
   | exact ih1 _
   | exact bosunlaw18_Awake.mono _
   | exact bosunlaw18_Of.mono _ _ _
   | exact bosunlaw18_Small.mono _ _ _
   | exact cktwo_Decode.mono _ _
   | exact cktwo_Encode.mono _ _ _
   | exact LeO.none _
   | refine LeO.ite ?_ ?_
   | refine LeO.bind ?_ (fun _=>?_)
def bosunlaw18_CktwoBack.T6 : Bool × List (List Nat × List Nat):=(true,[([],[]),([0],[0]),([1],[1]),([2],[2]),([3,2,2],[2,3]),([2],[2]),([5,4,2],[2,5]),([4,6,6,2],[2,4,6]),([7,2],[2,7]),([2,8],[2,8])])
def bosunlaw18_CktwoBack.B6 : List Nat:=[0,1,3,7,15,7,63,127,255,511]
theorem bosunlaw18_CktwoBack.tab6 : rtab .any (opsOf Tryd.f8 6) = bosunlaw18_CktwoBack.T6:=by kernel_rfl
theorem bosunlaw18_CktwoBack.bits6 : waitsOk bosunlaw18_CktwoBack.T6.2 bosunlaw18_CktwoBack.B6 = true:=by kernel_rfl
set_option maxHeartbeats 8000000 in
set_option maxRecDepth 100000 in
theorem bosunlaw18_CktwoBack.calls (k : Nat) (a0_0 : Int) (A0_1 : Option Addr) (c0_1 : Nat) (l0_1 : List (S98)) (a1 : ByteArray) (r : Bool) (w : World) (hr0_1 : Kd.C k98 w A0_1 l0_1.length l0_1) (hc0_1 : l0_1.length ≤ c0_1) (h : bosunlaw18_CktwoBack.f k a0_0 l0_1 a1 = some r) :
  Calls Tryd.prog 8 #[.agg #[.int .u64 a0_0,.slice A0_1 l0_1.length c0_1],.string a1] w fun e w'=>e = .returned (.bool r) ∧ Below w.heap.size w w':=by
 have hu49:=Tryd.underlying49
 have HR0_1:=Aside0.mk hr0_1
 have HC0_1:=Aside0.mk hc0_1
 clear hr0_1 hc0_1
 have HB:=Aside0.mk (Below.refl w.heap.size w)
 have H : ((bosunlaw18_Small.f k a0_0 l0_1).bind fun t190=>(if t190 = true then (bosunlaw18_CktwoBack.j0 k a1 (decide ((a1.size : Int) > 20000)) a0_0 l0_1) else (bosunlaw18_CktwoBack.j0 k a1 true a0_0 l0_1))) = some r:=h
 clear h
 have HC3:=Aside0.mk H
 clear H
 go_enter Tryd.func8,Tryd.ntmps8
 go_upto_region 1 with (first|((with_reducible refine gate_dst (N:=2) rfl ?_);refine box_event ?hg (N:=2) ?hd (cs:=#[.int .u64 a0_0,.slice A0_1 l0_1.length c0_1]) (t:=49) ?hr ?_;(case hd=>rfl);(case hg=>rfl);(case hr=>first|(go_simp;done)|(go_simp;rfl));intro gb189 hg w4 hbox hb;have n0_:=Aside0.mk (below_step (by repeat (first|(with_reducible first|exact HB.out|apply below_alloc|apply pw_below_drewN|apply below_drew1)|exact HB.out)) hb);have n1_:=Aside0.mk (hbox);have n2_:=Aside0.mk ((by rw [hg];exact (below_size (by repeat (first|(with_reducible first|exact HB.out|apply below_alloc|apply pw_below_drewN|apply below_drew1)|exact HB.out))) : w.heap.size ≤ gb189));have n3_:=Aside0.mk ((by rw [hg];exact (below_size (by repeat (first|(with_reducible first|exact HB.out|apply below_alloc|apply pw_below_drewN|apply below_drew1)|exact HB.out))) : w.heap.size ≤ gb189));clear HB;have HB:=n0_;have BK189:=n1_;have GW189:=n2_;have GE189:=n3_;clear n0_ n1_ n2_ n3_;clear hb hbox hg))
 (try simp only [Act.put,List.setIfInBounds_toArray,List.set_cons_zero,List.set_cons_succ])
 go_cut [19] (fun v19 wc=>∃ (kq : Nat) (x19_2 : Bool),v19 = .bool x19_2 ∧ Aside0 (bosunlaw18_CktwoBack.j0 kq a1 x19_2 a0_0 l0_1 = some r) ∧ Aside0 (kq ≤ k) ∧ Aside0 (wc.heap[gb189]? = some (.cells #[.int .u64 a0_0,(.slice A0_1 l0_1.length c0_1)] 49 (0,0))) ∧ Aside0 (Below w.heap.size w wc))
 case first =>
  have H:=HC3.out
  clear HC3
  replace H:=Option.bind_eq_some_iff.mp H
  obtain ⟨t190,A50,H⟩:=H
  replace H : (if t190 = true then (bosunlaw18_CktwoBack.j0 k a1 (decide ((a1.size : Int) > 20000)) a0_0 l0_1) else (bosunlaw18_CktwoBack.j0 k a1 true a0_0 l0_1)) = some r:=H
  have A5:=Aside0.mk A50
  clear A50
  by_cases c6 : t190 = true
  ·subst c6
   have H1 : (bosunlaw18_CktwoBack.j0 k a1 (decide ((a1.size : Int) > 20000)) a0_0 l0_1) = some r:=by rw [if_pos rfl] at H;exact H
   clear H
   have H:=H1
   clear H1
   have H':=Aside0.mk H
   clear H
   have hcz7_0 : w4.cell? ⟨gb189,0,none⟩ = some (.int .u64 a0_0):=(blk_cell BK189.out 0).trans rfl
   have hcz7_1 : w4.cell? ⟨gb189,1,none⟩ = some (.slice A0_1 l0_1.length c0_1):=(blk_cell BK189.out 1).trans rfl
   have hfz7_0:=blk_frozen BK189.out 0
   have hfz7_1:=blk_frozen BK189.out 1
   go_wp2_with (first|((with_reducible refine gate_callee (f:=22) rfl ?_);refine goesL_ (some 13) rfl rfl Tryd.func22 (by kernel_rfl) rfl #[.agg #[.int .u64 a0_0,.slice A0_1 l0_1.length c0_1]] rfl (by (try simp only [List.map_toArray,List.map_cons,List.map_nil]);first|done|rfl|(simp only [List.length_drop,List.length_take];rfl)|(simp (disch:=first|omega|(simp at *;omega)) only [u64_id,i64_id,u8_id];rfl)) ?_;(with_reducible refine (bosunlaw18_Small.calls k a0_0 _ _ l0_1 true _ ?side1 ?side2 A5.out).mono ?_);(case side1=>repeat (first|exact (Kd.C_below HR0_1.out HB.out)|(with_reducible refine Kd.C_alloc ?_ _)|(with_reducible refine Kd.C_drewN ?_ _)|(with_reducible refine Kd.C_drew ?_)));(case side2=>exact HC0_1.out);rintro e w8 ⟨rfl,hb⟩;refine ⟨_,rfl,?_⟩;have n0_:=Aside0.mk (blk_below (g:=gb189) (o:=.cells #[.int .u64 a0_0,.slice A0_1 l0_1.length c0_1] 49 (0,0)) (by (with_reducible repeat (first|apply blk_drewN|apply blk_drew|apply blk_alloc));exact BK189.out) hb);have n1_:=Aside0.mk (below_step (by repeat (first|(with_reducible first|exact HB.out|apply below_alloc|apply pw_below_drewN|apply below_drew1|refine below_set ?_ GE189.out)|exact HB.out)) hb);clear BK189;clear HB;have BK189:=n0_;have HB:=n1_;clear n0_ n1_;(try clear hb);(try clear hb2);(try clear hk);(try clear hi)))
   go_meet
   case rel=>exact ⟨_,(decide ((a1.size : Int) > 20000)),(by first|rfl|(simp;done)|(simp [*];done)),H',⟨by first|omega|exact Nat.le_refl _⟩,⟨by (with_reducible repeat (first|apply blk_drewN|apply blk_drew|apply blk_alloc));exact BK189.out⟩,⟨by repeat (first|(with_reducible first|exact HB.out|apply below_alloc|apply pw_below_drewN|apply below_drew1|refine below_set ?_ GE189.out)|exact HB.out)⟩⟩
  ·replace c6:=Bool.eq_false_iff.mpr c6
   subst c6
   have H1 : (bosunlaw18_CktwoBack.j0 k a1 true a0_0 l0_1) = some r:=by rw [if_neg (show ¬ (false = true) by decide)] at H;exact H
   clear H
   have H:=H1
   clear H1
   have H':=Aside0.mk H
   clear H
   have hcz9_0 : w4.cell? ⟨gb189,0,none⟩ = some (.int .u64 a0_0):=(blk_cell BK189.out 0).trans rfl
   have hcz9_1 : w4.cell? ⟨gb189,1,none⟩ = some (.slice A0_1 l0_1.length c0_1):=(blk_cell BK189.out 1).trans rfl
   have hfz9_0:=blk_frozen BK189.out 0
   have hfz9_1:=blk_frozen BK189.out 1
   go_wp2_with (first|((with_reducible refine gate_callee (f:=22) rfl ?_);refine goesL_ (some 13) rfl rfl Tryd.func22 (by kernel_rfl) rfl #[.agg #[.int .u64 a0_0,.slice A0_1 l0_1.length c0_1]] rfl (by (try simp only [List.map_toArray,List.map_cons,List.map_nil]);first|done|rfl|(simp only [List.length_drop,List.length_take];rfl)|(simp (disch:=first|omega|(simp at *;omega)) only [u64_id,i64_id,u8_id];rfl)) ?_;(with_reducible refine (bosunlaw18_Small.calls k a0_0 _ _ l0_1 false _ ?side1 ?side2 A5.out).mono ?_);(case side1=>repeat (first|exact (Kd.C_below HR0_1.out HB.out)|(with_reducible refine Kd.C_alloc ?_ _)|(with_reducible refine Kd.C_drewN ?_ _)|(with_reducible refine Kd.C_drew ?_)));(case side2=>exact HC0_1.out);rintro e w10 ⟨rfl,hb⟩;refine ⟨_,rfl,?_⟩;have n0_:=Aside0.mk (blk_below (g:=gb189) (o:=.cells #[.int .u64 a0_0,.slice A0_1 l0_1.length c0_1] 49 (0,0)) (by (with_reducible repeat (first|apply blk_drewN|apply blk_drew|apply blk_alloc));exact BK189.out) hb);have n1_:=Aside0.mk (below_step (by repeat (first|(with_reducible first|exact HB.out|apply below_alloc|apply pw_below_drewN|apply below_drew1|refine below_set ?_ GE189.out)|exact HB.out)) hb);clear BK189;clear HB;have BK189:=n0_;have HB:=n1_;clear n0_ n1_;(try clear hb);(try clear hb2);(try clear hk);(try clear hi)))
   go_meet
   case rel=>exact ⟨_,(true),(by first|rfl|(simp;done)|(simp [*];done)),H',⟨by first|omega|exact Nat.le_refl _⟩,⟨by (with_reducible repeat (first|apply blk_drewN|apply blk_drew|apply blk_alloc));exact BK189.out⟩,⟨by repeat (first|(with_reducible first|exact HB.out|apply below_alloc|apply pw_below_drewN|apply below_drew1|refine below_set ?_ GE189.out)|exact HB.out)⟩⟩
 case rest =>
  clear HC3
  try clear c2
  try clear p2
  try clear c6
  try clear c8
  try clear hcz7_0
  try clear hcz7_1
  try clear hcz9_0
  try clear hcz9_1
  try clear hfz7_0
  try clear hfz7_1
  try clear hfz9_0
  try clear hfz9_1
  obtain ⟨kq,x19_2,rfl,HA,HJ2,BK189,HB⟩:=hcut
  cases kq with
  | zero=>exact absurd HA.out (by simp [bosunlaw18_CktwoBack.j0])
  | succ kj2 =>
   have H:=HA.out
   clear HA
   simp only [bosunlaw18_CktwoBack.j0] at H
   by_cases c11 : x19_2 = true
   ·subst c11
    have H1 : ((bosunlaw18_Awake.f kj2).bind fun t191=>(some t191)) = some r:=by rw [if_pos rfl] at H;exact H
    clear H
    have H:=H1
    clear H1
    replace H:=Option.bind_eq_some_iff.mp H
    obtain ⟨t191,A120,H⟩:=H
    replace H : (some t191) = some r:=H
    have A12:=Aside0.mk A120
    clear A120
    obtain rfl:=Option.some.inj H
    go_wp2_with (first|((with_reducible refine gate_callee (f:=23) rfl ?_);refine goesL_ (some 20) rfl rfl Tryd.func23 (by kernel_rfl) rfl #[] rfl (by (try simp only [List.map_toArray,List.map_cons,List.map_nil]);first|done|rfl|(simp only [List.length_drop,List.length_take];rfl)|(simp (disch:=first|omega|(simp at *;omega)) only [u64_id,i64_id,u8_id];rfl)) ?_;(with_reducible refine (bosunlaw18_Awake.calls kj2  t191 _ A12.out).mono ?_);rintro e w13 ⟨rfl,hb⟩;refine ⟨_,rfl,?_⟩;have n0_:=Aside0.mk (blk_below (g:=gb189) (o:=.cells #[.int .u64 a0_0,.slice A0_1 l0_1.length c0_1] 49 (0,0)) (by (with_reducible repeat (first|apply blk_drewN|apply blk_drew|apply blk_alloc));exact BK189.out) hb);have n1_:=Aside0.mk (below_step (by repeat (first|(with_reducible first|exact HB.out|apply below_alloc|apply pw_below_drewN|apply below_drew1|refine below_set ?_ GE189.out)|exact HB.out)) hb);clear BK189;clear HB;have BK189:=n0_;have HB:=n1_;clear n0_ n1_;(try clear hb);(try clear hb2);(try clear hk);(try clear hi)))
    go_ret
    exact ⟨by first|rfl|(simp [errW_none,errW_some] <;> rfl)|(simp [*,errW_none,errW_some] <;> rfl),by repeat (first|(with_reducible first|exact HB.out|apply below_alloc|apply pw_below_drewN|apply below_drew1|refine below_set ?_ GE189.out)|exact HB.out)⟩
   ·replace c11:=Bool.eq_false_iff.mpr c11
    subst c11
    have H1 : ((cktwo_Encode.f kj2 a0_0 l0_1).bind fun bt192=>(if bt192.2 = 0 then ((cktwo_Decode.f kj2 bt192.1).bind fun bt194=>(if bt194.2.2 = 0 then ((bosunlaw18_Of.f kj2 bt194.1 bt194.2.1).bind fun bt200=>((bosunlaw18_Of.f kj2 a0_0 l0_1).bind fun bt204=>((bosunref18_Same.f bt200.1 bt200.2 bt204.1 bt204.2).bind fun t208=>(if t208 = true then (bosunlaw18_CktwoBack.j1 kj2 a1) else (some false))))) else (some false))) else (bosunlaw18_CktwoBack.j1 kj2 a1))) = some r:=by rw [if_neg (show ¬ (false = true) by decide)] at H;exact H
    clear H
    have H:=H1
    clear H1
    replace H:=Option.bind_eq_some_iff.mp H
    obtain ⟨⟨t192,t193⟩,A140,H⟩:=H
    replace H : (if t193 = 0 then ((cktwo_Decode.f kj2 t192).bind fun bt194=>(if bt194.2.2 = 0 then ((bosunlaw18_Of.f kj2 bt194.1 bt194.2.1).bind fun bt200=>((bosunlaw18_Of.f kj2 a0_0 l0_1).bind fun bt204=>((bosunref18_Same.f bt200.1 bt200.2 bt204.1 bt204.2).bind fun t208=>(if t208 = true then (bosunlaw18_CktwoBack.j1 kj2 a1) else (some false))))) else (some false))) else (bosunlaw18_CktwoBack.j1 kj2 a1)) = some r:=H
    have A14:=Aside0.mk A140
    clear A140
    have HC15:=Aside0.mk H
    clear H
    have hcz16_0 : wc.cell? ⟨gb189,0,none⟩ = some (.int .u64 a0_0):=(blk_cell BK189.out 0).trans rfl
    have hcz16_1 : wc.cell? ⟨gb189,1,none⟩ = some (.slice A0_1 l0_1.length c0_1):=(blk_cell BK189.out 1).trans rfl
    have hfz16_0:=blk_frozen BK189.out 0
    have hfz16_1:=blk_frozen BK189.out 1
    go_upto_if 27 with (first|((with_reducible refine gate_callee (f:=26) rfl ?_);refine goesL_ (some 23) rfl rfl Tryd.func26 (by kernel_rfl) rfl #[.agg #[.int .u64 a0_0,.slice A0_1 l0_1.length c0_1]] rfl (by (try simp only [List.map_toArray,List.map_cons,List.map_nil]);first|done|rfl|(simp only [List.length_drop,List.length_take];rfl)|(simp (disch:=first|omega|(simp at *;omega)) only [u64_id,i64_id,u8_id];rfl)) ?_;(with_reducible refine (cktwo_Encode.calls kj2 a0_0 _ _ l0_1 t192 t193 _ ?side1 ?side2 A14.out).mono ?_);(case side1=>repeat (first|exact (Kd.C_below HR0_1.out HB.out)|(with_reducible refine Kd.C_alloc ?_ _)|(with_reducible refine Kd.C_drewN ?_ _)|(with_reducible refine Kd.C_drew ?_)));(case side2=>exact HC0_1.out);rintro e w17 ⟨rfl,hb⟩;refine ⟨_,rfl,?_⟩;have n0_:=Aside0.mk (blk_below (g:=gb189) (o:=.cells #[.int .u64 a0_0,.slice A0_1 l0_1.length c0_1] 49 (0,0)) (by (with_reducible repeat (first|apply blk_drewN|apply blk_drew|apply blk_alloc));exact BK189.out) hb);have n1_:=Aside0.mk (below_step (by repeat (first|(with_reducible first|exact HB.out|apply below_alloc|apply pw_below_drewN|apply below_drew1|refine below_set ?_ GE189.out)|exact HB.out)) hb);clear BK189;clear HB;have BK189:=n0_;have HB:=n1_;clear n0_ n1_;(try clear hb);(try clear hb2);(try clear hk);(try clear hi)))
    (try simp only [Act.put,List.setIfInBounds_toArray,List.set_cons_zero,List.set_cons_succ])
    go_cut [] (fun wc=>∃ (kq : Nat),Aside0 (bosunlaw18_CktwoBack.j1 kq a1 = some r) ∧ Aside0 (kq ≤ kj2) ∧ Aside0 (wc.heap[gb189]? = some (.cells #[.int .u64 a0_0,(.slice A0_1 l0_1.length c0_1)] 49 (0,0))) ∧ Aside0 (Below w.heap.size w wc))
    case first =>
     have H:=HC15.out
     clear HC15
     by_cases c18 : t193 = 0
     ·rw [if_pos c18] at H
      have c18b0 : (t193 == 0) = true:=beq_iff_eq.mpr c18
      have c18b1 : (t193 != 0) = false:=bne_eq_false_iff_eq.mpr c18
      clear c18
      (first|rw [c18b0]|(simp only [i64_w,i32_w];rw [c18b0])|skip)
      replace H:=Option.bind_eq_some_iff.mp H
      obtain ⟨⟨t194,t195,t198⟩,A190,H⟩:=H
      replace H : (if t198 = 0 then ((bosunlaw18_Of.f kj2 t194 t195).bind fun bt200=>((bosunlaw18_Of.f kj2 a0_0 l0_1).bind fun bt204=>((bosunref18_Same.f bt200.1 bt200.2 bt204.1 bt204.2).bind fun t208=>(if t208 = true then (bosunlaw18_CktwoBack.j1 kj2 a1) else (some false))))) else (some false)) = some r:=H
      have A19:=Aside0.mk A190
      clear A190
      by_cases c20 : t198 = 0
      ·rw [if_pos c20] at H
       have c20b0 : (t198 == 0) = true:=beq_iff_eq.mpr c20
       have c20b1 : (t198 != 0) = false:=bne_eq_false_iff_eq.mpr c20
       clear c20
       replace H:=Option.bind_eq_some_iff.mp H
       obtain ⟨⟨t200,t201⟩,A210,H⟩:=H
       replace H : ((bosunlaw18_Of.f kj2 a0_0 l0_1).bind fun bt204=>((bosunref18_Same.f t200 t201 bt204.1 bt204.2).bind fun t208=>(if t208 = true then (bosunlaw18_CktwoBack.j1 kj2 a1) else (some false)))) = some r:=H
       have A21:=Aside0.mk A210
       clear A210
       replace H:=Option.bind_eq_some_iff.mp H
       obtain ⟨⟨t204,t205⟩,A220,H⟩:=H
       replace H : ((bosunref18_Same.f t200 t201 t204 t205).bind fun t208=>(if t208 = true then (bosunlaw18_CktwoBack.j1 kj2 a1) else (some false))) = some r:=H
       have A22:=Aside0.mk A220
       clear A220
       replace H:=Option.bind_eq_some_iff.mp H
       obtain ⟨t208,A230,H⟩:=H
       replace H : (if t208 = true then (bosunlaw18_CktwoBack.j1 kj2 a1) else (some false)) = some r:=H
       have A23:=Aside0.mk A230
       clear A230
       by_cases c24 : t208 = true
       ·subst c24
        have H1 : (bosunlaw18_CktwoBack.j1 kj2 a1) = some r:=by rw [if_pos rfl] at H;exact H
        clear H
        have H:=H1
        clear H1
        have H':=Aside0.mk H
        clear H
        try go_wp2_with (first|((with_reducible refine gate_callee (f:=31) rfl ?_);refine goesL_ (some 30) rfl rfl Tryd.func31 (by kernel_rfl) rfl #[.string t192] rfl (by (try simp only [List.map_toArray,List.map_cons,List.map_nil]);first|done|rfl|(simp only [List.length_drop,List.length_take];rfl)|(simp (disch:=first|omega|(simp at *;omega)) only [u64_id,i64_id,u8_id];rfl)) ?_;(with_reducible refine (cktwo_Decode.calls kj2 t192 t194 t195 t198 _ A19.out).mono ?_);rintro e w25 ⟨v196,rfl,ho0,hb⟩;refine ⟨_,rfl,?_⟩;have n0_:=Aside0.mk (Kd.S_lower ho0 (below_size (by repeat (first|(with_reducible first|exact HB.out|apply below_alloc|apply pw_below_drewN|apply below_drew1|refine below_set ?_ GE189.out)|exact HB.out))));have n1_:=Aside0.mk (blk_below (g:=gb189) (o:=.cells #[.int .u64 a0_0,.slice A0_1 l0_1.length c0_1] 49 (0,0)) (by (with_reducible repeat (first|apply blk_drewN|apply blk_drew|apply blk_alloc));exact BK189.out) hb);have n2_:=Aside0.mk (below_step (by repeat (first|(with_reducible first|exact HB.out|apply below_alloc|apply pw_below_drewN|apply below_drew1|refine below_set ?_ GE189.out)|exact HB.out)) hb);clear BK189;clear HB;have HO197:=n0_;have BK189:=n1_;have HB:=n2_;clear n0_ n1_ n2_;(try clear hb);(try clear hb2);(try clear hk);(try clear hi);(try clear ho0))|((with_reducible refine gate_dst (N:=7) rfl ?_);refine box_event ?hg (N:=7) ?hd (cs:=#[.int .u64 0,.slice none 0 0]) (t:=49) ?hr ?_;(case hd=>rfl);(case hg=>rfl);(case hr=>first|(go_simp;done)|(go_simp;rfl));intro gb199 hg w26 hbox hb;have n0_:=Aside0.mk (Kd.S_below (by (with_reducible repeat (first|apply Kd.S_alloc|apply Kd.S_drewN|apply Kd.S_drew));exact HO197.out) hb);have n1_:=Aside0.mk (blk_below (g:=gb189) (o:=.cells #[.int .u64 a0_0,.slice A0_1 l0_1.length c0_1] 49 (0,0)) (by (with_reducible repeat (first|apply blk_drewN|apply blk_drew|apply blk_alloc));exact BK189.out) hb);have n2_:=Aside0.mk (below_step (by repeat (first|(with_reducible first|exact HB.out|apply below_alloc|apply pw_below_drewN|apply below_drew1|refine below_set ?_ GE189.out)|exact HB.out)) hb);have n3_:=Aside0.mk (hbox);have n4_:=Aside0.mk ((by rw [hg];exact (below_size (by repeat (first|(with_reducible first|exact HB.out|apply below_alloc|apply pw_below_drewN|apply below_drew1|refine below_set ?_ GE189.out)|exact HB.out))) : w.heap.size ≤ gb199));have n5_:=Aside0.mk ((by rw [hg];exact (below_size (by repeat (first|(with_reducible first|exact HB.out|apply below_alloc|apply pw_below_drewN|apply below_drew1|refine below_set ?_ GE189.out)|exact HB.out))) : w.heap.size ≤ gb199));have n6_:=Aside0.mk ((by rw [hg];exact Nat.ne_of_lt (blk_lt (g:=gb189) (o:=.cells #[.int .u64 a0_0,.slice A0_1 l0_1.length c0_1] 49 (0,0)) (by (with_reducible repeat (first|apply blk_drewN|apply blk_drew|apply blk_alloc));exact BK189.out)) : gb189 ≠ gb199));have n7_:=Aside0.mk ((by rw [hg];exact Nat.ne_of_gt (blk_lt (g:=gb189) (o:=.cells #[.int .u64 a0_0,.slice A0_1 l0_1.length c0_1] 49 (0,0)) (by (with_reducible repeat (first|apply blk_drewN|apply blk_drew|apply blk_alloc));exact BK189.out)) : gb199 ≠ gb189));clear HO197;clear BK189;clear HB;have HO197:=n0_;have BK189:=n1_;have HB:=n2_;have BK199:=n3_;have GW199:=n4_;have GE199:=n5_;have NB189_199:=n6_;have NB199_189:=n7_;clear n0_ n1_ n2_ n3_ n4_ n5_ n6_ n7_;clear hb hbox hg;have hnb27:=NB199_189.out;have hnc27:=NB189_199.out;have hcz28_0 : w26.cell? ⟨gb199,0,none⟩ = some (.int .u64 0):=(blk_cell BK199.out 0).trans rfl;have hcz28_1 : w26.cell? ⟨gb199,1,none⟩ = some (.slice none 0 0):=(blk_cell BK199.out 1).trans rfl;have hfz28_0:=blk_frozen BK199.out 0;have hfz28_1:=blk_frozen BK199.out 1;obtain ⟨Ao29,co29,eo29⟩:=Kd.S_slice HO197.out;subst eo29))
        have n0_ : Aside0 (Kd.S k98 98 ((w26.setCell ⟨gb199,0,none⟩ (.int .u64 t194)).setCell ⟨gb199,1,none⟩ (.slice Ao29 t195.length co29)) w.heap.size (fun _=>True) (.slice Ao29 t195.length co29) t195):=⟨by (with_reducible repeat (first|apply Kd.S_alloc|apply Kd.S_drewN|apply Kd.S_drew));exact Kd.S_mono (Kd.S_far (p:=⟨gb199,1,none⟩) (Kd.S_far (p:=⟨gb199,0,none⟩) (Kd.S_types HO197.out BK199.out (by decide)) (fun _ hk=>hk.2) (.int .u64 t194)) (fun _ hk=>hk.2) (.slice Ao29 t195.length co29)) (fun _ hk=>trivial)⟩
        have n1_ : Aside0 (((w26.setCell ⟨gb199,0,none⟩ (.int .u64 t194)).setCell ⟨gb199,1,none⟩ (.slice Ao29 t195.length co29)).heap[gb189]? = some (.cells #[.int .u64 a0_0,.slice A0_1 l0_1.length c0_1] 49 (0,0))):=⟨by (with_reducible repeat (first|apply blk_drewN|apply blk_drew|apply blk_alloc));refine blk_far ?_ NB189_199.out _;(with_reducible repeat (first|apply blk_drewN|apply blk_drew|apply blk_alloc));refine blk_far ?_ NB189_199.out _;(with_reducible repeat (first|apply blk_drewN|apply blk_drew|apply blk_alloc));exact BK189.out⟩
        have n2_ : Aside0 (((w26.setCell ⟨gb199,0,none⟩ (.int .u64 t194)).setCell ⟨gb199,1,none⟩ (.slice Ao29 t195.length co29)).heap[gb199]? = some (.cells #[.int .u64 t194,.slice Ao29 t195.length co29] 49 (0,0))):=⟨by (with_reducible repeat (first|apply blk_drewN|apply blk_drew|apply blk_alloc));refine blk_put (cs:=#[.int .u64 t194,.slice none 0 0]) ?_ 1 _ rfl;(with_reducible repeat (first|apply blk_drewN|apply blk_drew|apply blk_alloc));refine blk_put (cs:=#[.int .u64 0,.slice none 0 0]) ?_ 0 _ rfl;(with_reducible repeat (first|apply blk_drewN|apply blk_drew|apply blk_alloc));exact BK199.out⟩
        have n3_ : Aside0 (Below w.heap.size w ((w26.setCell ⟨gb199,0,none⟩ (.int .u64 t194)).setCell ⟨gb199,1,none⟩ (.slice Ao29 t195.length co29))):=⟨by repeat (first|(with_reducible first|exact HB.out|apply below_alloc|apply pw_below_drewN|apply below_drew1|refine below_set ?_ GE189.out|refine below_set ?_ GE199.out)|exact HB.out)⟩
        (try clear HO197)
        (try clear BK189)
        (try clear BK199)
        (try clear HB)
        generalize ((w26.setCell ⟨gb199,0,none⟩ (.int .u64 t194)).setCell ⟨gb199,1,none⟩ (.slice Ao29 t195.length co29)) = w30 at n0_ n1_ n2_ n3_ ⊢
        have HO197:=n0_
        have BK189:=n1_
        have BK199:=n2_
        have HB:=n3_
        clear n0_ n1_ n2_ n3_
        have n0_:=Aside0.mk (Kd.S_drew HO197.out)
        have n1_:=Aside0.mk (blk_drew BK189.out)
        have n2_:=Aside0.mk (blk_drew BK199.out)
        have n3_:=Aside0.mk (below_drew1 HB.out)
        clear HO197
        clear BK189
        clear BK199
        clear HB
        have HO197:=n0_
        have BK189:=n1_
        have BK199:=n2_
        have HB:=n3_
        clear n0_ n1_ n2_ n3_
        refine start_ (n:=10) (S:=fun w'=>w'.cell? ⟨gb199,0,none⟩ = some (.int .u64 t194) ∧ w'.cell? ⟨gb199,1,none⟩ = some (.slice Ao29 t195.length co29) ∧ w'.cell? ⟨gb189,0,none⟩ = some (.int .u64 a0_0) ∧ w'.cell? ⟨gb189,1,none⟩ = some (.slice A0_1 l0_1.length c0_1)) (ds:=[]) #[false,false,false,false,false,false,false,false,false,false] (by kernel_rfl) rfl rfl ⟨(blk_cell BK199.out 0).trans rfl,(blk_cell BK199.out 1).trans rfl,(blk_cell BK189.out 0).trans rfl,(blk_cell BK189.out 1).trans rfl⟩ (fun hHeld=>?_);refine with_tabW bosunlaw18_CktwoBack.tab6 bosunlaw18_CktwoBack.bits6 (fun HT_ HW_=>?_)
        generalize w30.drew = w31 at HO197 BK189 BK199 HB hHeld ⊢
        refine pure_ (i:=0) (N:=some 33) (v:=?_) (a':=?_) #[true,false,false,false,false,false,false,false,false,false] rfl rfl (any_of HT_.out (by kernel_rfl)) (fun _ _ _ h=>h) (Or.inl ⟨by rfl,?_⟩) ?_ ?_
        rotate_left
        ·intro w'
         go_simp
         with_reducible rfl
        rotate_left
        ·simp only [Act.put,List.setIfInBounds_toArray,List.set_cons_zero,List.set_cons_succ,i64_w,i32_w]
         rfl
        refine pure_ (i:=1) (N:=some 34) (v:=?_) (a':=?_) #[true,true,false,false,false,false,false,false,false,false] rfl rfl (any_of HT_.out (by kernel_rfl)) (fun _ _ _ h=>h) (Or.inl ⟨by rfl,?_⟩) ?_ ?_
        rotate_left
        ·intro w'
         go_simp
         with_reducible rfl
        rotate_left
        ·simp only [Act.put,List.setIfInBounds_toArray,List.set_cons_zero,List.set_cons_succ,i64_w,i32_w]
         rfl
        refine pure_ (i:=2) (N:=some 35) (v:=?_) (a':=?_) #[true,true,true,false,false,false,false,false,false,false] rfl rfl (any_of HT_.out (by kernel_rfl)) (fun _ _ _ h=>h) (Or.inl ⟨by rfl,?_⟩) ?_ ?_
        rotate_left
        ·intro w'
         go_simp
         with_reducible rfl
        rotate_left
        ·simp only [Act.put,List.setIfInBounds_toArray,List.set_cons_zero,List.set_cons_succ,i64_w,i32_w]
         rfl
        refine take_ (i:=3) (N:=some 36) (v:=?_) (a':=?_) #[true,true,true,true,false,false,false,false,false,false] rfl rfl (take_ofW HT_.out HW_.out (by kernel_rfl)) (fun _ _ _ h=>h) (Or.inl ⟨by rfl,?_⟩) hHeld ?_ ?_
        rotate_left
        ·rintro w' ⟨s0,s1,s2,s3⟩
         go_simp
         with_reducible rfl
        rotate_left
        ·simp only [Act.put,List.setIfInBounds_toArray,List.set_cons_zero,List.set_cons_succ,i64_w,i32_w]
         rfl
        refine take_ (i:=5) (N:=some 38) (v:=?_) (a':=?_) #[true,true,true,true,false,true,false,false,false,false] rfl rfl (take_ofW HT_.out HW_.out (by kernel_rfl)) (fun _ _ _ h=>h) (Or.inl ⟨by rfl,?_⟩) hHeld ?_ ?_
        rotate_left
        ·rintro w' ⟨s0,s1,s2,s3⟩
         go_simp
         with_reducible rfl
        rotate_left
        ·simp only [Act.put,List.setIfInBounds_toArray,List.set_cons_zero,List.set_cons_succ,i64_w,i32_w]
         rfl
        refine one_ (i:=4) (N:=some 37) #[true,true,true,true,true,true,false,false,false,false] rfl rfl (one_of HT_.out (by kernel_rfl)) (by decide) (fun K hK=>?_)
        refine goes_ Tryd.func24 (by kernel_rfl) rfl #[.agg #[.int .u64 t194,.slice Ao29 t195.length co29]] (by rfl) rfl rfl (by (try simp only [List.map_toArray,List.map_cons,List.map_nil]);first|done|rfl|(simp only [List.length_drop,List.length_take];rfl)) ?_
        with_reducible refine (bosunlaw18_Of.calls kj2 t194 _ _ t195 t200 t201 _ ?side1 ?side2 A21.out).mono ?_
        (case side1=>repeat (first|exact (Kd.S_reads' HO197.out).2.2|(with_reducible refine Kd.C_alloc ?_ _)|(with_reducible refine Kd.C_drewN ?_ _)|(with_reducible refine Kd.C_drew ?_)))
        (case side2=>exact (Kd.S_reads' HO197.out).2.1)
        rintro e w32 ⟨v202,rfl,ho0,hb⟩
        refine ⟨_,rfl,?_⟩
        have n0_:=Aside0.mk (Kd.S_below (by (with_reducible repeat (first|apply Kd.S_alloc|apply Kd.S_drewN|apply Kd.S_drew));exact HO197.out) hb)
        have n1_:=Aside0.mk (Kd.S_lower ho0 (below_size (by repeat (first|(with_reducible first|exact HB.out|apply below_alloc|apply pw_below_drewN|apply below_drew1|refine below_set ?_ GE189.out|refine below_set ?_ GE199.out)|exact HB.out))))
        have n2_:=Aside0.mk (blk_below (g:=gb189) (o:=.cells #[.int .u64 a0_0,.slice A0_1 l0_1.length c0_1] 49 (0,0)) (by (with_reducible repeat (first|apply blk_drewN|apply blk_drew|apply blk_alloc));exact BK189.out) hb)
        have n3_:=Aside0.mk (blk_below (g:=gb199) (o:=.cells #[.int .u64 t194,.slice Ao29 t195.length co29] 49 (0,0)) (by (with_reducible repeat (first|apply blk_drewN|apply blk_drew|apply blk_alloc));exact BK199.out) hb)
        have n4_:=Aside0.mk (below_step (by repeat (first|(with_reducible first|exact HB.out|apply below_alloc|apply pw_below_drewN|apply below_drew1|refine below_set ?_ GE189.out|refine below_set ?_ GE199.out)|exact HB.out)) hb)
        clear HO197
        clear BK189
        clear BK199
        clear HB
        have HO197:=n0_
        have HO203:=n1_
        have BK189:=n2_
        have BK199:=n3_
        have HB:=n4_
        clear n0_ n1_ n2_ n3_ n4_
        (try clear hb)
        (try clear hb2)
        (try clear hk)
        (try clear hi)
        (try clear ho0)
        refine hK.out _ _ ⟨(blk_cell BK199.out 0).trans rfl,(blk_cell BK199.out 1).trans rfl,(blk_cell BK189.out 0).trans rfl,(blk_cell BK189.out 1).trans rfl⟩ (fun hHeld=>?_)
        clear hK K
        refine norm_ (a':=?_) ?_ ?_
        rotate_left
        ·show Act.put _ (some 37) _ = _
         simp only [Act.put,List.setIfInBounds_toArray,List.set_cons_zero,List.set_cons_succ,i64_w,i32_w]
         rfl
        refine one_ (i:=6) (N:=some 39) #[true,true,true,true,true,true,true,false,false,false] rfl rfl (one_of HT_.out (by kernel_rfl)) (by decide) (fun K hK=>?_)
        refine goes_ Tryd.func24 (by kernel_rfl) rfl #[.agg #[.int .u64 a0_0,.slice A0_1 l0_1.length c0_1]] (by rfl) rfl rfl (by (try simp only [List.map_toArray,List.map_cons,List.map_nil]);first|done|rfl|(simp only [List.length_drop,List.length_take];rfl)) ?_
        with_reducible refine (bosunlaw18_Of.calls kj2 a0_0 _ _ l0_1 t204 t205 _ ?side1 ?side2 A22.out).mono ?_
        (case side1=>repeat (first|exact (Kd.C_below HR0_1.out HB.out)|(with_reducible refine Kd.C_alloc ?_ _)|(with_reducible refine Kd.C_drewN ?_ _)|(with_reducible refine Kd.C_drew ?_)))
        (case side2=>exact HC0_1.out)
        rintro e w33 ⟨v206,rfl,ho0,hb⟩
        refine ⟨_,rfl,?_⟩
        have n0_:=Aside0.mk (Kd.S_below (by (with_reducible repeat (first|apply Kd.S_alloc|apply Kd.S_drewN|apply Kd.S_drew));exact HO197.out) hb)
        have n1_:=Aside0.mk (Kd.S_elder' (by (with_reducible repeat (first|apply Kd.S_alloc|apply Kd.S_drewN|apply Kd.S_drew));exact HO203.out) (Kd.S_base ho0) hb)
        have n2_:=Aside0.mk (Kd.S_lower (Kd.S_new' ho0 (Kd.S_lt (by (with_reducible repeat (first|apply Kd.S_alloc|apply Kd.S_drewN|apply Kd.S_drew));exact HO203.out))) (below_size (by repeat (first|(with_reducible first|exact HB.out|apply below_alloc|apply pw_below_drewN|apply below_drew1|refine below_set ?_ GE189.out|refine below_set ?_ GE199.out)|exact HB.out))))
        have n3_:=Aside0.mk (blk_below (g:=gb189) (o:=.cells #[.int .u64 a0_0,.slice A0_1 l0_1.length c0_1] 49 (0,0)) (by (with_reducible repeat (first|apply blk_drewN|apply blk_drew|apply blk_alloc));exact BK189.out) hb)
        have n4_:=Aside0.mk (blk_below (g:=gb199) (o:=.cells #[.int .u64 t194,.slice Ao29 t195.length co29] 49 (0,0)) (by (with_reducible repeat (first|apply blk_drewN|apply blk_drew|apply blk_alloc));exact BK199.out) hb)
        have n5_:=Aside0.mk (below_step (by repeat (first|(with_reducible first|exact HB.out|apply below_alloc|apply pw_below_drewN|apply below_drew1|refine below_set ?_ GE189.out|refine below_set ?_ GE199.out)|exact HB.out)) hb)
        clear HO197
        clear HO203
        clear BK189
        clear BK199
        clear HB
        have HO197:=n0_
        have HO203:=n1_
        have HO207:=n2_
        have BK189:=n3_
        have BK199:=n4_
        have HB:=n5_
        clear n0_ n1_ n2_ n3_ n4_ n5_
        (try clear hb)
        (try clear hb2)
        (try clear hk)
        (try clear hi)
        (try clear ho0)
        obtain ⟨Ao34,co34,eo34⟩:=Kd.S_slice HO203.out
        (first|subst eo34|(injection eo34 with f1_ f2_ f3_;have f4_:=f1_.symm;have f5_:=f3_.symm;clear f1_ f2_ f3_;subst f4_;subst f5_))
        obtain ⟨Ao35,co35,eo35⟩:=Kd.S_slice HO207.out
        (first|subst eo35|(injection eo35 with f1_ f2_ f3_;have f4_:=f1_.symm;have f5_:=f3_.symm;clear f1_ f2_ f3_;subst f4_;subst f5_))
        refine hK.out _ _ ⟨(blk_cell BK199.out 0).trans rfl,(blk_cell BK199.out 1).trans rfl,(blk_cell BK189.out 0).trans rfl,(blk_cell BK189.out 1).trans rfl⟩ (fun hHeld=>?_)
        clear hK K
        refine norm_ (a':=?_) ?_ ?_
        rotate_left
        ·show Act.put _ (some 39) _ = _
         simp only [Act.put,List.setIfInBounds_toArray,List.set_cons_zero,List.set_cons_succ,i64_w,i32_w]
         rfl
        refine one_ (i:=7) (N:=some 40) #[true,true,true,true,true,true,true,true,false,false] rfl rfl (one_of HT_.out (by kernel_rfl)) (by decide) (fun K hK=>?_)
        refine goes_ Tryd.func30 (by kernel_rfl) rfl #[.agg #[.int .u64 t200,.slice Ao34 t201.length co34],.agg #[.int .u64 t204,.slice Ao35 t205.length co35]] (by rfl) rfl rfl (by (try simp only [List.map_toArray,List.map_cons,List.map_nil]);first|done|rfl|(simp only [List.length_drop,List.length_take];rfl)) ?_
        with_reducible refine (bosunref18_Same.calls t200 _ _ t201 t204 _ _ t205 true _ ?side1 ?side2 ?side3 ?side4 A23.out).mono ?_
        (case side1=>repeat (first|exact (Kd.S_reads' HO203.out).2.2|(with_reducible refine Kd.C_alloc ?_ _)|(with_reducible refine Kd.C_drewN ?_ _)|(with_reducible refine Kd.C_drew ?_)))
        (case side2=>exact (Kd.S_reads' HO203.out).2.1)
        (case side3=>repeat (first|exact (Kd.S_reads' HO207.out).2.2|(with_reducible refine Kd.C_alloc ?_ _)|(with_reducible refine Kd.C_drewN ?_ _)|(with_reducible refine Kd.C_drew ?_)))
        (case side4=>exact (Kd.S_reads' HO207.out).2.1)
        rintro e w36 ⟨rfl,hb⟩
        refine ⟨_,rfl,?_⟩
        have n0_:=Aside0.mk (Kd.S_below (by (with_reducible repeat (first|apply Kd.S_alloc|apply Kd.S_drewN|apply Kd.S_drew));exact HO197.out) hb)
        have n1_:=Aside0.mk (Kd.S_below (by (with_reducible repeat (first|apply Kd.S_alloc|apply Kd.S_drewN|apply Kd.S_drew));exact HO203.out) hb)
        have n2_:=Aside0.mk (Kd.S_below (by (with_reducible repeat (first|apply Kd.S_alloc|apply Kd.S_drewN|apply Kd.S_drew));exact HO207.out) hb)
        have n3_:=Aside0.mk (blk_below (g:=gb189) (o:=.cells #[.int .u64 a0_0,.slice A0_1 l0_1.length c0_1] 49 (0,0)) (by (with_reducible repeat (first|apply blk_drewN|apply blk_drew|apply blk_alloc));exact BK189.out) hb)
        have n4_:=Aside0.mk (blk_below (g:=gb199) (o:=.cells #[.int .u64 t194,.slice Ao29 t195.length co29] 49 (0,0)) (by (with_reducible repeat (first|apply blk_drewN|apply blk_drew|apply blk_alloc));exact BK199.out) hb)
        have n5_:=Aside0.mk (below_step (by repeat (first|(with_reducible first|exact HB.out|apply below_alloc|apply pw_below_drewN|apply below_drew1|refine below_set ?_ GE189.out|refine below_set ?_ GE199.out)|exact HB.out)) hb)
        clear HO197
        clear HO203
        clear HO207
        clear BK189
        clear BK199
        clear HB
        have HO197:=n0_
        have HO203:=n1_
        have HO207:=n2_
        have BK189:=n3_
        have BK199:=n4_
        have HB:=n5_
        clear n0_ n1_ n2_ n3_ n4_ n5_
        (try clear hb)
        (try clear hb2)
        (try clear hk)
        (try clear hi)
        refine hK.out _ _ ⟨(blk_cell BK199.out 0).trans rfl,(blk_cell BK199.out 1).trans rfl,(blk_cell BK189.out 0).trans rfl,(blk_cell BK189.out 1).trans rfl⟩ (fun hHeld=>?_)
        clear hK K
        refine norm_ (a':=?_) ?_ ?_
        rotate_left
        ·show Act.put _ (some 40) _ = _
         simp only [Act.put,List.setIfInBounds_toArray,List.set_cons_zero,List.set_cons_succ,i64_w,i32_w]
         rfl
        refine pure_ (i:=8) (N:=some 41) (v:=?_) (a':=?_) #[true,true,true,true,true,true,true,true,true,false] rfl rfl (any_of HT_.out (by kernel_rfl)) (fun _ _ _ h=>h) (Or.inl ⟨by rfl,?_⟩) ?_ ?_
        rotate_left
        ·intro w'
         go_simp
         with_reducible rfl
        rotate_left
        ·simp only [Act.put,List.setIfInBounds_toArray,List.set_cons_zero,List.set_cons_succ,i64_w,i32_w]
         rfl
        refine pure_ (i:=9) (N:=some 42) (v:=?_) (a':=?_) #[true,true,true,true,true,true,true,true,true,true] rfl rfl (any_of HT_.out (by kernel_rfl)) (fun _ _ _ h=>h) (Or.inl ⟨by rfl,?_⟩) ?_ ?_
        rotate_left
        ·intro w'
         go_simp
         with_reducible rfl
        rotate_left
        ·simp only [Act.put,List.setIfInBounds_toArray,List.set_cons_zero,List.set_cons_succ,i64_w,i32_w]
         rfl
        refine done_ (done_of HT_.out (by kernel_rfl)) ?_
        try go_wp2
        go_meet
        case rel=>exact ⟨_,H',⟨by have:=HJ2.out;first|omega|exact Nat.le_refl _⟩,⟨by (with_reducible repeat (first|apply blk_drewN|apply blk_drew|apply blk_alloc));exact BK189.out⟩,⟨by repeat (first|(with_reducible first|exact HB.out|apply below_alloc|apply pw_below_drewN|apply below_drew1|refine below_set ?_ GE189.out|refine below_set ?_ GE199.out)|exact HB.out)⟩⟩
       ·replace c24:=Bool.eq_false_iff.mpr c24
        subst c24
        have H1 : (some false) = some r:=by rw [if_neg (show ¬ (false = true) by decide)] at H;exact H
        clear H
        have H:=H1
        clear H1
        obtain rfl:=Option.some.inj H
        try go_wp2_with (first|((with_reducible refine gate_callee (f:=31) rfl ?_);refine goesL_ (some 30) rfl rfl Tryd.func31 (by kernel_rfl) rfl #[.string t192] rfl (by (try simp only [List.map_toArray,List.map_cons,List.map_nil]);first|done|rfl|(simp only [List.length_drop,List.length_take];rfl)|(simp (disch:=first|omega|(simp at *;omega)) only [u64_id,i64_id,u8_id];rfl)) ?_;(with_reducible refine (cktwo_Decode.calls kj2 t192 t194 t195 t198 _ A19.out).mono ?_);rintro e w37 ⟨v196,rfl,ho0,hb⟩;refine ⟨_,rfl,?_⟩;have n0_:=Aside0.mk (Kd.S_lower ho0 (below_size (by repeat (first|(with_reducible first|exact HB.out|apply below_alloc|apply pw_below_drewN|apply below_drew1|refine below_set ?_ GE189.out)|exact HB.out))));have n1_:=Aside0.mk (blk_below (g:=gb189) (o:=.cells #[.int .u64 a0_0,.slice A0_1 l0_1.length c0_1] 49 (0,0)) (by (with_reducible repeat (first|apply blk_drewN|apply blk_drew|apply blk_alloc));exact BK189.out) hb);have n2_:=Aside0.mk (below_step (by repeat (first|(with_reducible first|exact HB.out|apply below_alloc|apply pw_below_drewN|apply below_drew1|refine below_set ?_ GE189.out)|exact HB.out)) hb);clear BK189;clear HB;have HO197:=n0_;have BK189:=n1_;have HB:=n2_;clear n0_ n1_ n2_;(try clear hb);(try clear hb2);(try clear hk);(try clear hi);(try clear ho0))|((with_reducible refine gate_dst (N:=7) rfl ?_);refine box_event ?hg (N:=7) ?hd (cs:=#[.int .u64 0,.slice none 0 0]) (t:=49) ?hr ?_;(case hd=>rfl);(case hg=>rfl);(case hr=>first|(go_simp;done)|(go_simp;rfl));intro gb199 hg w38 hbox hb;have n0_:=Aside0.mk (Kd.S_below (by (with_reducible repeat (first|apply Kd.S_alloc|apply Kd.S_drewN|apply Kd.S_drew));exact HO197.out) hb);have n1_:=Aside0.mk (blk_below (g:=gb189) (o:=.cells #[.int .u64 a0_0,.slice A0_1 l0_1.length c0_1] 49 (0,0)) (by (with_reducible repeat (first|apply blk_drewN|apply blk_drew|apply blk_alloc));exact BK189.out) hb);have n2_:=Aside0.mk (below_step (by repeat (first|(with_reducible first|exact HB.out|apply below_alloc|apply pw_below_drewN|apply below_drew1|refine below_set ?_ GE189.out)|exact HB.out)) hb);have n3_:=Aside0.mk (hbox);have n4_:=Aside0.mk ((by rw [hg];exact (below_size (by repeat (first|(with_reducible first|exact HB.out|apply below_alloc|apply pw_below_drewN|apply below_drew1|refine below_set ?_ GE189.out)|exact HB.out))) : w.heap.size ≤ gb199));have n5_:=Aside0.mk ((by rw [hg];exact (below_size (by repeat (first|(with_reducible first|exact HB.out|apply below_alloc|apply pw_below_drewN|apply below_drew1|refine below_set ?_ GE189.out)|exact HB.out))) : w.heap.size ≤ gb199));have n6_:=Aside0.mk ((by rw [hg];exact Nat.ne_of_lt (blk_lt (g:=gb189) (o:=.cells #[.int .u64 a0_0,.slice A0_1 l0_1.length c0_1] 49 (0,0)) (by (with_reducible repeat (first|apply blk_drewN|apply blk_drew|apply blk_alloc));exact BK189.out)) : gb189 ≠ gb199));have n7_:=Aside0.mk ((by rw [hg];exact Nat.ne_of_gt (blk_lt (g:=gb189) (o:=.cells #[.int .u64 a0_0,.slice A0_1 l0_1.length c0_1] 49 (0,0)) (by (with_reducible repeat (first|apply blk_drewN|apply blk_drew|apply blk_alloc));exact BK189.out)) : gb199 ≠ gb189));clear HO197;clear BK189;clear HB;have HO197:=n0_;have BK189:=n1_;have HB:=n2_;have BK199:=n3_;have GW199:=n4_;have GE199:=n5_;have NB189_199:=n6_;have NB199_189:=n7_;clear n0_ n1_ n2_ n3_ n4_ n5_ n6_ n7_;clear hb hbox hg;have hnb39:=NB199_189.out;have hnc39:=NB189_199.out;have hcz40_0 : w38.cell? ⟨gb199,0,none⟩ = some (.int .u64 0):=(blk_cell BK199.out 0).trans rfl;have hcz40_1 : w38.cell? ⟨gb199,1,none⟩ = some (.slice none 0 0):=(blk_cell BK199.out 1).trans rfl;have hfz40_0:=blk_frozen BK199.out 0;have hfz40_1:=blk_frozen BK199.out 1;obtain ⟨Ao41,co41,eo41⟩:=Kd.S_slice HO197.out;subst eo41))
        have n0_ : Aside0 (Kd.S k98 98 ((w38.setCell ⟨gb199,0,none⟩ (.int .u64 t194)).setCell ⟨gb199,1,none⟩ (.slice Ao41 t195.length co41)) w.heap.size (fun _=>True) (.slice Ao41 t195.length co41) t195):=⟨by (with_reducible repeat (first|apply Kd.S_alloc|apply Kd.S_drewN|apply Kd.S_drew));exact Kd.S_mono (Kd.S_far (p:=⟨gb199,1,none⟩) (Kd.S_far (p:=⟨gb199,0,none⟩) (Kd.S_types HO197.out BK199.out (by decide)) (fun _ hk=>hk.2) (.int .u64 t194)) (fun _ hk=>hk.2) (.slice Ao41 t195.length co41)) (fun _ hk=>trivial)⟩
        have n1_ : Aside0 (((w38.setCell ⟨gb199,0,none⟩ (.int .u64 t194)).setCell ⟨gb199,1,none⟩ (.slice Ao41 t195.length co41)).heap[gb189]? = some (.cells #[.int .u64 a0_0,.slice A0_1 l0_1.length c0_1] 49 (0,0))):=⟨by (with_reducible repeat (first|apply blk_drewN|apply blk_drew|apply blk_alloc));refine blk_far ?_ NB189_199.out _;(with_reducible repeat (first|apply blk_drewN|apply blk_drew|apply blk_alloc));refine blk_far ?_ NB189_199.out _;(with_reducible repeat (first|apply blk_drewN|apply blk_drew|apply blk_alloc));exact BK189.out⟩
        have n2_ : Aside0 (((w38.setCell ⟨gb199,0,none⟩ (.int .u64 t194)).setCell ⟨gb199,1,none⟩ (.slice Ao41 t195.length co41)).heap[gb199]? = some (.cells #[.int .u64 t194,.slice Ao41 t195.length co41] 49 (0,0))):=⟨by (with_reducible repeat (first|apply blk_drewN|apply blk_drew|apply blk_alloc));refine blk_put (cs:=#[.int .u64 t194,.slice none 0 0]) ?_ 1 _ rfl;(with_reducible repeat (first|apply blk_drewN|apply blk_drew|apply blk_alloc));refine blk_put (cs:=#[.int .u64 0,.slice none 0 0]) ?_ 0 _ rfl;(with_reducible repeat (first|apply blk_drewN|apply blk_drew|apply blk_alloc));exact BK199.out⟩
        have n3_ : Aside0 (Below w.heap.size w ((w38.setCell ⟨gb199,0,none⟩ (.int .u64 t194)).setCell ⟨gb199,1,none⟩ (.slice Ao41 t195.length co41))):=⟨by repeat (first|(with_reducible first|exact HB.out|apply below_alloc|apply pw_below_drewN|apply below_drew1|refine below_set ?_ GE189.out|refine below_set ?_ GE199.out)|exact HB.out)⟩
        (try clear HO197)
        (try clear BK189)
        (try clear BK199)
        (try clear HB)
        generalize ((w38.setCell ⟨gb199,0,none⟩ (.int .u64 t194)).setCell ⟨gb199,1,none⟩ (.slice Ao41 t195.length co41)) = w42 at n0_ n1_ n2_ n3_ ⊢
        have HO197:=n0_
        have BK189:=n1_
        have BK199:=n2_
        have HB:=n3_
        clear n0_ n1_ n2_ n3_
        have n0_:=Aside0.mk (Kd.S_drew HO197.out)
        have n1_:=Aside0.mk (blk_drew BK189.out)
        have n2_:=Aside0.mk (blk_drew BK199.out)
        have n3_:=Aside0.mk (below_drew1 HB.out)
        clear HO197
        clear BK189
        clear BK199
        clear HB
        have HO197:=n0_
        have BK189:=n1_
        have BK199:=n2_
        have HB:=n3_
        clear n0_ n1_ n2_ n3_
        refine start_ (n:=10) (S:=fun w'=>w'.cell? ⟨gb199,0,none⟩ = some (.int .u64 t194) ∧ w'.cell? ⟨gb199,1,none⟩ = some (.slice Ao41 t195.length co41) ∧ w'.cell? ⟨gb189,0,none⟩ = some (.int .u64 a0_0) ∧ w'.cell? ⟨gb189,1,none⟩ = some (.slice A0_1 l0_1.length c0_1)) (ds:=[]) #[false,false,false,false,false,false,false,false,false,false] (by kernel_rfl) rfl rfl ⟨(blk_cell BK199.out 0).trans rfl,(blk_cell BK199.out 1).trans rfl,(blk_cell BK189.out 0).trans rfl,(blk_cell BK189.out 1).trans rfl⟩ (fun hHeld=>?_);refine with_tabW bosunlaw18_CktwoBack.tab6 bosunlaw18_CktwoBack.bits6 (fun HT_ HW_=>?_)
        generalize w42.drew = w43 at HO197 BK189 BK199 HB hHeld ⊢
        refine pure_ (i:=0) (N:=some 33) (v:=?_) (a':=?_) #[true,false,false,false,false,false,false,false,false,false] rfl rfl (any_of HT_.out (by kernel_rfl)) (fun _ _ _ h=>h) (Or.inl ⟨by rfl,?_⟩) ?_ ?_
        rotate_left
        ·intro w'
         go_simp
         with_reducible rfl
        rotate_left
        ·simp only [Act.put,List.setIfInBounds_toArray,List.set_cons_zero,List.set_cons_succ,i64_w,i32_w]
         rfl
        refine pure_ (i:=1) (N:=some 34) (v:=?_) (a':=?_) #[true,true,false,false,false,false,false,false,false,false] rfl rfl (any_of HT_.out (by kernel_rfl)) (fun _ _ _ h=>h) (Or.inl ⟨by rfl,?_⟩) ?_ ?_
        rotate_left
        ·intro w'
         go_simp
         with_reducible rfl
        rotate_left
        ·simp only [Act.put,List.setIfInBounds_toArray,List.set_cons_zero,List.set_cons_succ,i64_w,i32_w]
         rfl
        refine pure_ (i:=2) (N:=some 35) (v:=?_) (a':=?_) #[true,true,true,false,false,false,false,false,false,false] rfl rfl (any_of HT_.out (by kernel_rfl)) (fun _ _ _ h=>h) (Or.inl ⟨by rfl,?_⟩) ?_ ?_
        rotate_left
        ·intro w'
         go_simp
         with_reducible rfl
        rotate_left
        ·simp only [Act.put,List.setIfInBounds_toArray,List.set_cons_zero,List.set_cons_succ,i64_w,i32_w]
         rfl
        refine take_ (i:=3) (N:=some 36) (v:=?_) (a':=?_) #[true,true,true,true,false,false,false,false,false,false] rfl rfl (take_ofW HT_.out HW_.out (by kernel_rfl)) (fun _ _ _ h=>h) (Or.inl ⟨by rfl,?_⟩) hHeld ?_ ?_
        rotate_left
        ·rintro w' ⟨s0,s1,s2,s3⟩
         go_simp
         with_reducible rfl
        rotate_left
        ·simp only [Act.put,List.setIfInBounds_toArray,List.set_cons_zero,List.set_cons_succ,i64_w,i32_w]
         rfl
        refine take_ (i:=5) (N:=some 38) (v:=?_) (a':=?_) #[true,true,true,true,false,true,false,false,false,false] rfl rfl (take_ofW HT_.out HW_.out (by kernel_rfl)) (fun _ _ _ h=>h) (Or.inl ⟨by rfl,?_⟩) hHeld ?_ ?_
        rotate_left
        ·rintro w' ⟨s0,s1,s2,s3⟩
         go_simp
         with_reducible rfl
        rotate_left
        ·simp only [Act.put,List.setIfInBounds_toArray,List.set_cons_zero,List.set_cons_succ,i64_w,i32_w]
         rfl
        refine one_ (i:=4) (N:=some 37) #[true,true,true,true,true,true,false,false,false,false] rfl rfl (one_of HT_.out (by kernel_rfl)) (by decide) (fun K hK=>?_)
        refine goes_ Tryd.func24 (by kernel_rfl) rfl #[.agg #[.int .u64 t194,.slice Ao41 t195.length co41]] (by rfl) rfl rfl (by (try simp only [List.map_toArray,List.map_cons,List.map_nil]);first|done|rfl|(simp only [List.length_drop,List.length_take];rfl)) ?_
        with_reducible refine (bosunlaw18_Of.calls kj2 t194 _ _ t195 t200 t201 _ ?side1 ?side2 A21.out).mono ?_
        (case side1=>repeat (first|exact (Kd.S_reads' HO197.out).2.2|(with_reducible refine Kd.C_alloc ?_ _)|(with_reducible refine Kd.C_drewN ?_ _)|(with_reducible refine Kd.C_drew ?_)))
        (case side2=>exact (Kd.S_reads' HO197.out).2.1)
        rintro e w44 ⟨v202,rfl,ho0,hb⟩
        refine ⟨_,rfl,?_⟩
        have n0_:=Aside0.mk (Kd.S_below (by (with_reducible repeat (first|apply Kd.S_alloc|apply Kd.S_drewN|apply Kd.S_drew));exact HO197.out) hb)
        have n1_:=Aside0.mk (Kd.S_lower ho0 (below_size (by repeat (first|(with_reducible first|exact HB.out|apply below_alloc|apply pw_below_drewN|apply below_drew1|refine below_set ?_ GE189.out|refine below_set ?_ GE199.out)|exact HB.out))))
        have n2_:=Aside0.mk (blk_below (g:=gb189) (o:=.cells #[.int .u64 a0_0,.slice A0_1 l0_1.length c0_1] 49 (0,0)) (by (with_reducible repeat (first|apply blk_drewN|apply blk_drew|apply blk_alloc));exact BK189.out) hb)
        have n3_:=Aside0.mk (blk_below (g:=gb199) (o:=.cells #[.int .u64 t194,.slice Ao41 t195.length co41] 49 (0,0)) (by (with_reducible repeat (first|apply blk_drewN|apply blk_drew|apply blk_alloc));exact BK199.out) hb)
        have n4_:=Aside0.mk (below_step (by repeat (first|(with_reducible first|exact HB.out|apply below_alloc|apply pw_below_drewN|apply below_drew1|refine below_set ?_ GE189.out|refine below_set ?_ GE199.out)|exact HB.out)) hb)
        clear HO197
        clear BK189
        clear BK199
        clear HB
        have HO197:=n0_
        have HO203:=n1_
        have BK189:=n2_
        have BK199:=n3_
        have HB:=n4_
        clear n0_ n1_ n2_ n3_ n4_
        (try clear hb)
        (try clear hb2)
        (try clear hk)
        (try clear hi)
        (try clear ho0)
        refine hK.out _ _ ⟨(blk_cell BK199.out 0).trans rfl,(blk_cell BK199.out 1).trans rfl,(blk_cell BK189.out 0).trans rfl,(blk_cell BK189.out 1).trans rfl⟩ (fun hHeld=>?_)
        clear hK K
        refine norm_ (a':=?_) ?_ ?_
        rotate_left
        ·show Act.put _ (some 37) _ = _
         simp only [Act.put,List.setIfInBounds_toArray,List.set_cons_zero,List.set_cons_succ,i64_w,i32_w]
         rfl
        refine one_ (i:=6) (N:=some 39) #[true,true,true,true,true,true,true,false,false,false] rfl rfl (one_of HT_.out (by kernel_rfl)) (by decide) (fun K hK=>?_)
        refine goes_ Tryd.func24 (by kernel_rfl) rfl #[.agg #[.int .u64 a0_0,.slice A0_1 l0_1.length c0_1]] (by rfl) rfl rfl (by (try simp only [List.map_toArray,List.map_cons,List.map_nil]);first|done|rfl|(simp only [List.length_drop,List.length_take];rfl)) ?_
        with_reducible refine (bosunlaw18_Of.calls kj2 a0_0 _ _ l0_1 t204 t205 _ ?side1 ?side2 A22.out).mono ?_
        (case side1=>repeat (first|exact (Kd.C_below HR0_1.out HB.out)|(with_reducible refine Kd.C_alloc ?_ _)|(with_reducible refine Kd.C_drewN ?_ _)|(with_reducible refine Kd.C_drew ?_)))
        (case side2=>exact HC0_1.out)
        rintro e w45 ⟨v206,rfl,ho0,hb⟩
        refine ⟨_,rfl,?_⟩
        have n0_:=Aside0.mk (Kd.S_below (by (with_reducible repeat (first|apply Kd.S_alloc|apply Kd.S_drewN|apply Kd.S_drew));exact HO197.out) hb)
        have n1_:=Aside0.mk (Kd.S_elder' (by (with_reducible repeat (first|apply Kd.S_alloc|apply Kd.S_drewN|apply Kd.S_drew));exact HO203.out) (Kd.S_base ho0) hb)
        have n2_:=Aside0.mk (Kd.S_lower (Kd.S_new' ho0 (Kd.S_lt (by (with_reducible repeat (first|apply Kd.S_alloc|apply Kd.S_drewN|apply Kd.S_drew));exact HO203.out))) (below_size (by repeat (first|(with_reducible first|exact HB.out|apply below_alloc|apply pw_below_drewN|apply below_drew1|refine below_set ?_ GE189.out|refine below_set ?_ GE199.out)|exact HB.out))))
        have n3_:=Aside0.mk (blk_below (g:=gb189) (o:=.cells #[.int .u64 a0_0,.slice A0_1 l0_1.length c0_1] 49 (0,0)) (by (with_reducible repeat (first|apply blk_drewN|apply blk_drew|apply blk_alloc));exact BK189.out) hb)
        have n4_:=Aside0.mk (blk_below (g:=gb199) (o:=.cells #[.int .u64 t194,.slice Ao41 t195.length co41] 49 (0,0)) (by (with_reducible repeat (first|apply blk_drewN|apply blk_drew|apply blk_alloc));exact BK199.out) hb)
        have n5_:=Aside0.mk (below_step (by repeat (first|(with_reducible first|exact HB.out|apply below_alloc|apply pw_below_drewN|apply below_drew1|refine below_set ?_ GE189.out|refine below_set ?_ GE199.out)|exact HB.out)) hb)
        clear HO197
        clear HO203
        clear BK189
        clear BK199
        clear HB
        have HO197:=n0_
        have HO203:=n1_
        have HO207:=n2_
        have BK189:=n3_
        have BK199:=n4_
        have HB:=n5_
        clear n0_ n1_ n2_ n3_ n4_ n5_
        (try clear hb)
        (try clear hb2)
        (try clear hk)
        (try clear hi)
        (try clear ho0)
        obtain ⟨Ao46,co46,eo46⟩:=Kd.S_slice HO203.out
        (first|subst eo46|(injection eo46 with f1_ f2_ f3_;have f4_:=f1_.symm;have f5_:=f3_.symm;clear f1_ f2_ f3_;subst f4_;subst f5_))
        obtain ⟨Ao47,co47,eo47⟩:=Kd.S_slice HO207.out
        (first|subst eo47|(injection eo47 with f1_ f2_ f3_;have f4_:=f1_.symm;have f5_:=f3_.symm;clear f1_ f2_ f3_;subst f4_;subst f5_))
        refine hK.out _ _ ⟨(blk_cell BK199.out 0).trans rfl,(blk_cell BK199.out 1).trans rfl,(blk_cell BK189.out 0).trans rfl,(blk_cell BK189.out 1).trans rfl⟩ (fun hHeld=>?_)
        clear hK K
        refine norm_ (a':=?_) ?_ ?_
        rotate_left
        ·show Act.put _ (some 39) _ = _
         simp only [Act.put,List.setIfInBounds_toArray,List.set_cons_zero,List.set_cons_succ,i64_w,i32_w]
         rfl
        refine one_ (i:=7) (N:=some 40) #[true,true,true,true,true,true,true,true,false,false] rfl rfl (one_of HT_.out (by kernel_rfl)) (by decide) (fun K hK=>?_)
        refine goes_ Tryd.func30 (by kernel_rfl) rfl #[.agg #[.int .u64 t200,.slice Ao46 t201.length co46],.agg #[.int .u64 t204,.slice Ao47 t205.length co47]] (by rfl) rfl rfl (by (try simp only [List.map_toArray,List.map_cons,List.map_nil]);first|done|rfl|(simp only [List.length_drop,List.length_take];rfl)) ?_
        with_reducible refine (bosunref18_Same.calls t200 _ _ t201 t204 _ _ t205 false _ ?side1 ?side2 ?side3 ?side4 A23.out).mono ?_
        (case side1=>repeat (first|exact (Kd.S_reads' HO203.out).2.2|(with_reducible refine Kd.C_alloc ?_ _)|(with_reducible refine Kd.C_drewN ?_ _)|(with_reducible refine Kd.C_drew ?_)))
        (case side2=>exact (Kd.S_reads' HO203.out).2.1)
        (case side3=>repeat (first|exact (Kd.S_reads' HO207.out).2.2|(with_reducible refine Kd.C_alloc ?_ _)|(with_reducible refine Kd.C_drewN ?_ _)|(with_reducible refine Kd.C_drew ?_)))
        (case side4=>exact (Kd.S_reads' HO207.out).2.1)
        rintro e w48 ⟨rfl,hb⟩
        refine ⟨_,rfl,?_⟩
        have n0_:=Aside0.mk (Kd.S_below (by (with_reducible repeat (first|apply Kd.S_alloc|apply Kd.S_drewN|apply Kd.S_drew));exact HO197.out) hb)
        have n1_:=Aside0.mk (Kd.S_below (by (with_reducible repeat (first|apply Kd.S_alloc|apply Kd.S_drewN|apply Kd.S_drew));exact HO203.out) hb)
        have n2_:=Aside0.mk (Kd.S_below (by (with_reducible repeat (first|apply Kd.S_alloc|apply Kd.S_drewN|apply Kd.S_drew));exact HO207.out) hb)
        have n3_:=Aside0.mk (blk_below (g:=gb189) (o:=.cells #[.int .u64 a0_0,.slice A0_1 l0_1.length c0_1] 49 (0,0)) (by (with_reducible repeat (first|apply blk_drewN|apply blk_drew|apply blk_alloc));exact BK189.out) hb)
        have n4_:=Aside0.mk (blk_below (g:=gb199) (o:=.cells #[.int .u64 t194,.slice Ao41 t195.length co41] 49 (0,0)) (by (with_reducible repeat (first|apply blk_drewN|apply blk_drew|apply blk_alloc));exact BK199.out) hb)
        have n5_:=Aside0.mk (below_step (by repeat (first|(with_reducible first|exact HB.out|apply below_alloc|apply pw_below_drewN|apply below_drew1|refine below_set ?_ GE189.out|refine below_set ?_ GE199.out)|exact HB.out)) hb)
        clear HO197
        clear HO203
        clear HO207
        clear BK189
        clear BK199
        clear HB
        have HO197:=n0_
        have HO203:=n1_
        have HO207:=n2_
        have BK189:=n3_
        have BK199:=n4_
        have HB:=n5_
        clear n0_ n1_ n2_ n3_ n4_ n5_
        (try clear hb)
        (try clear hb2)
        (try clear hk)
        (try clear hi)
        refine hK.out _ _ ⟨(blk_cell BK199.out 0).trans rfl,(blk_cell BK199.out 1).trans rfl,(blk_cell BK189.out 0).trans rfl,(blk_cell BK189.out 1).trans rfl⟩ (fun hHeld=>?_)
        clear hK K
        refine norm_ (a':=?_) ?_ ?_
        rotate_left
        ·show Act.put _ (some 40) _ = _
         simp only [Act.put,List.setIfInBounds_toArray,List.set_cons_zero,List.set_cons_succ,i64_w,i32_w]
         rfl
        refine pure_ (i:=8) (N:=some 41) (v:=?_) (a':=?_) #[true,true,true,true,true,true,true,true,true,false] rfl rfl (any_of HT_.out (by kernel_rfl)) (fun _ _ _ h=>h) (Or.inl ⟨by rfl,?_⟩) ?_ ?_
        rotate_left
        ·intro w'
         go_simp
         with_reducible rfl
        rotate_left
        ·simp only [Act.put,List.setIfInBounds_toArray,List.set_cons_zero,List.set_cons_succ,i64_w,i32_w]
         rfl
        refine pure_ (i:=9) (N:=some 42) (v:=?_) (a':=?_) #[true,true,true,true,true,true,true,true,true,true] rfl rfl (any_of HT_.out (by kernel_rfl)) (fun _ _ _ h=>h) (Or.inl ⟨by rfl,?_⟩) ?_ ?_
        rotate_left
        ·intro w'
         go_simp
         with_reducible rfl
        rotate_left
        ·simp only [Act.put,List.setIfInBounds_toArray,List.set_cons_zero,List.set_cons_succ,i64_w,i32_w]
         rfl
        refine done_ (done_of HT_.out (by kernel_rfl)) ?_
        try go_wp2
        go_ret
        exact ⟨by first|rfl|(simp [errW_none,errW_some] <;> rfl)|(simp [*,errW_none,errW_some] <;> rfl),by repeat (first|(with_reducible first|exact HB.out|apply below_alloc|apply pw_below_drewN|apply below_drew1|refine below_set ?_ GE189.out|refine below_set ?_ GE199.out)|exact HB.out)⟩
      ·rw [if_neg c20] at H
       have c20b0 : (t198 == 0) = false:=beq_eq_false_iff_ne.mpr c20
       have c20b1 : (t198 != 0) = true:=bne_iff_ne.mpr c20
       obtain rfl:=Option.some.inj H
       try go_wp2_with (first|((with_reducible refine gate_callee (f:=31) rfl ?_);refine goesL_ (some 30) rfl rfl Tryd.func31 (by kernel_rfl) rfl #[.string t192] rfl (by (try simp only [List.map_toArray,List.map_cons,List.map_nil]);first|done|rfl|(simp only [List.length_drop,List.length_take];rfl)|(simp (disch:=first|omega|(simp at *;omega)) only [u64_id,i64_id,u8_id];rfl)) ?_;(with_reducible refine (cktwo_Decode.calls kj2 t192 t194 t195 t198 _ A19.out).mono ?_);rintro e w49 ⟨v196,rfl,ho0,hb⟩;refine ⟨_,rfl,?_⟩;have n0_:=Aside0.mk (Kd.S_lower ho0 (below_size (by repeat (first|(with_reducible first|exact HB.out|apply below_alloc|apply pw_below_drewN|apply below_drew1|refine below_set ?_ GE189.out)|exact HB.out))));have n1_:=Aside0.mk (blk_below (g:=gb189) (o:=.cells #[.int .u64 a0_0,.slice A0_1 l0_1.length c0_1] 49 (0,0)) (by (with_reducible repeat (first|apply blk_drewN|apply blk_drew|apply blk_alloc));exact BK189.out) hb);have n2_:=Aside0.mk (below_step (by repeat (first|(with_reducible first|exact HB.out|apply below_alloc|apply pw_below_drewN|apply below_drew1|refine below_set ?_ GE189.out)|exact HB.out)) hb);clear BK189;clear HB;have HO197:=n0_;have BK189:=n1_;have HB:=n2_;clear n0_ n1_ n2_;(try clear hb);(try clear hb2);(try clear hk);(try clear hi);(try clear ho0))|((with_reducible refine gate_dst (N:=7) rfl ?_);refine box_event ?hg (N:=7) ?hd (cs:=#[.int .u64 0,.slice none 0 0]) (t:=49) ?hr ?_;(case hd=>rfl);(case hg=>rfl);(case hr=>first|(go_simp;done)|(go_simp;rfl));intro gb199 hg w50 hbox hb;have n0_:=Aside0.mk (Kd.S_below (by (with_reducible repeat (first|apply Kd.S_alloc|apply Kd.S_drewN|apply Kd.S_drew));exact HO197.out) hb);have n1_:=Aside0.mk (blk_below (g:=gb189) (o:=.cells #[.int .u64 a0_0,.slice A0_1 l0_1.length c0_1] 49 (0,0)) (by (with_reducible repeat (first|apply blk_drewN|apply blk_drew|apply blk_alloc));exact BK189.out) hb);have n2_:=Aside0.mk (below_step (by repeat (first|(with_reducible first|exact HB.out|apply below_alloc|apply pw_below_drewN|apply below_drew1|refine below_set ?_ GE189.out)|exact HB.out)) hb);have n3_:=Aside0.mk (hbox);have n4_:=Aside0.mk ((by rw [hg];exact (below_size (by repeat (first|(with_reducible first|exact HB.out|apply below_alloc|apply pw_below_drewN|apply below_drew1|refine below_set ?_ GE189.out)|exact HB.out))) : w.heap.size ≤ gb199));have n5_:=Aside0.mk ((by rw [hg];exact (below_size (by repeat (first|(with_reducible first|exact HB.out|apply below_alloc|apply pw_below_drewN|apply below_drew1|refine below_set ?_ GE189.out)|exact HB.out))) : w.heap.size ≤ gb199));have n6_:=Aside0.mk ((by rw [hg];exact Nat.ne_of_lt (blk_lt (g:=gb189) (o:=.cells #[.int .u64 a0_0,.slice A0_1 l0_1.length c0_1] 49 (0,0)) (by (with_reducible repeat (first|apply blk_drewN|apply blk_drew|apply blk_alloc));exact BK189.out)) : gb189 ≠ gb199));have n7_:=Aside0.mk ((by rw [hg];exact Nat.ne_of_gt (blk_lt (g:=gb189) (o:=.cells #[.int .u64 a0_0,.slice A0_1 l0_1.length c0_1] 49 (0,0)) (by (with_reducible repeat (first|apply blk_drewN|apply blk_drew|apply blk_alloc));exact BK189.out)) : gb199 ≠ gb189));clear HO197;clear BK189;clear HB;have HO197:=n0_;have BK189:=n1_;have HB:=n2_;have BK199:=n3_;have GW199:=n4_;have GE199:=n5_;have NB189_199:=n6_;have NB199_189:=n7_;clear n0_ n1_ n2_ n3_ n4_ n5_ n6_ n7_;clear hb hbox hg;have hnb51:=NB199_189.out;have hnc51:=NB189_199.out;have hcz52_0 : w50.cell? ⟨gb199,0,none⟩ = some (.int .u64 0):=(blk_cell BK199.out 0).trans rfl;have hcz52_1 : w50.cell? ⟨gb199,1,none⟩ = some (.slice none 0 0):=(blk_cell BK199.out 1).trans rfl;have hfz52_0:=blk_frozen BK199.out 0;have hfz52_1:=blk_frozen BK199.out 1;obtain ⟨Ao53,co53,eo53⟩:=Kd.S_slice HO197.out;subst eo53))
       have n0_ : Aside0 (Kd.S k98 98 ((w50.setCell ⟨gb199,0,none⟩ (.int .u64 t194)).setCell ⟨gb199,1,none⟩ (.slice Ao53 t195.length co53)) w.heap.size (fun _=>True) (.slice Ao53 t195.length co53) t195):=⟨by (with_reducible repeat (first|apply Kd.S_alloc|apply Kd.S_drewN|apply Kd.S_drew));exact Kd.S_mono (Kd.S_far (p:=⟨gb199,1,none⟩) (Kd.S_far (p:=⟨gb199,0,none⟩) (Kd.S_types HO197.out BK199.out (by decide)) (fun _ hk=>hk.2) (.int .u64 t194)) (fun _ hk=>hk.2) (.slice Ao53 t195.length co53)) (fun _ hk=>trivial)⟩
       have n1_ : Aside0 (((w50.setCell ⟨gb199,0,none⟩ (.int .u64 t194)).setCell ⟨gb199,1,none⟩ (.slice Ao53 t195.length co53)).heap[gb189]? = some (.cells #[.int .u64 a0_0,.slice A0_1 l0_1.length c0_1] 49 (0,0))):=⟨by (with_reducible repeat (first|apply blk_drewN|apply blk_drew|apply blk_alloc));refine blk_far ?_ NB189_199.out _;(with_reducible repeat (first|apply blk_drewN|apply blk_drew|apply blk_alloc));refine blk_far ?_ NB189_199.out _;(with_reducible repeat (first|apply blk_drewN|apply blk_drew|apply blk_alloc));exact BK189.out⟩
       have n2_ : Aside0 (((w50.setCell ⟨gb199,0,none⟩ (.int .u64 t194)).setCell ⟨gb199,1,none⟩ (.slice Ao53 t195.length co53)).heap[gb199]? = some (.cells #[.int .u64 t194,.slice Ao53 t195.length co53] 49 (0,0))):=⟨by (with_reducible repeat (first|apply blk_drewN|apply blk_drew|apply blk_alloc));refine blk_put (cs:=#[.int .u64 t194,.slice none 0 0]) ?_ 1 _ rfl;(with_reducible repeat (first|apply blk_drewN|apply blk_drew|apply blk_alloc));refine blk_put (cs:=#[.int .u64 0,.slice none 0 0]) ?_ 0 _ rfl;(with_reducible repeat (first|apply blk_drewN|apply blk_drew|apply blk_alloc));exact BK199.out⟩
       have n3_ : Aside0 (Below w.heap.size w ((w50.setCell ⟨gb199,0,none⟩ (.int .u64 t194)).setCell ⟨gb199,1,none⟩ (.slice Ao53 t195.length co53))):=⟨by repeat (first|(with_reducible first|exact HB.out|apply below_alloc|apply pw_below_drewN|apply below_drew1|refine below_set ?_ GE189.out|refine below_set ?_ GE199.out)|exact HB.out)⟩
       (try clear HO197)
       (try clear BK189)
       (try clear BK199)
       (try clear HB)
       generalize ((w50.setCell ⟨gb199,0,none⟩ (.int .u64 t194)).setCell ⟨gb199,1,none⟩ (.slice Ao53 t195.length co53)) = w54 at n0_ n1_ n2_ n3_ ⊢
       have HO197:=n0_
       have BK189:=n1_
       have BK199:=n2_
       have HB:=n3_
       clear n0_ n1_ n2_ n3_
       have n0_:=Aside0.mk (Kd.S_drew HO197.out)
       have n1_:=Aside0.mk (blk_drew BK189.out)
       have n2_:=Aside0.mk (blk_drew BK199.out)
       have n3_:=Aside0.mk (below_drew1 HB.out)
       clear HO197
       clear BK189
       clear BK199
       clear HB
       have HO197:=n0_
       have BK189:=n1_
       have BK199:=n2_
       have HB:=n3_
       clear n0_ n1_ n2_ n3_
       refine start_ (n:=10) (S:=fun w'=>True) (ds:=[]) #[false,false,false,false,false,false,false,false,false,false] (by kernel_rfl) rfl rfl trivial (fun hHeld=>?_);refine with_tabW bosunlaw18_CktwoBack.tab6 bosunlaw18_CktwoBack.bits6 (fun HT_ HW_=>?_)
       generalize w54.drew = w55 at HO197 BK189 BK199 HB hHeld ⊢
       refine pure_ (i:=0) (N:=some 33) (v:=?_) (a':=?_) #[true,false,false,false,false,false,false,false,false,false] rfl rfl (any_of HT_.out (by kernel_rfl)) (fun _ _ _ h=>h) (Or.inl ⟨by rfl,?_⟩) ?_ ?_
       rotate_left
       ·intro w'
        go_simp
        with_reducible rfl
       rotate_left
       ·simp only [Act.put,List.setIfInBounds_toArray,List.set_cons_zero,List.set_cons_succ,i64_w,i32_w]
        rfl
       refine pure_ (i:=1) (N:=some 34) (v:=?_) (a':=?_) #[true,true,false,false,false,false,false,false,false,false] rfl rfl (any_of HT_.out (by kernel_rfl)) (fun _ _ _ h=>h) (Or.inl ⟨by rfl,?_⟩) ?_ ?_
       rotate_left
       ·intro w'
        go_simp
        with_reducible rfl
       rotate_left
       ·simp only [Act.put,List.setIfInBounds_toArray,List.set_cons_zero,List.set_cons_succ,i64_w,i32_w]
        rfl
       refine pure_ (i:=2) (N:=some 35) (v:=?_) (a':=?_) #[true,true,true,false,false,false,false,false,false,false] rfl rfl (any_of HT_.out (by kernel_rfl)) (fun _ _ _ h=>h) (Or.inl ⟨by rfl,?_⟩) ?_ ?_
       rotate_left
       ·intro w'
        go_simp
        with_reducible rfl
       rotate_left
       ·simp only [Act.put,List.setIfInBounds_toArray,List.set_cons_zero,List.set_cons_succ,i64_w,i32_w]
        rfl
       refine pure_ (i:=3) (N:=some 36) (v:=undef) (a':=?_) #[true,true,true,true,false,false,false,false,false,false] rfl rfl (any_of HT_.out (by kernel_rfl)) (fun _ _ _ h=>h) (Or.inr ⟨by rfl,rfl⟩) ?_ ?_
       rotate_left
       ·simp only [Act.put,List.setIfInBounds_toArray,List.set_cons_zero,List.set_cons_succ,i64_w,i32_w]
        rfl
       refine pure_ (i:=4) (N:=some 37) (v:=undef) (a':=?_) #[true,true,true,true,true,false,false,false,false,false] rfl rfl (any_of HT_.out (by kernel_rfl)) (fun _ _ _ h=>h) (Or.inr ⟨by rfl,rfl⟩) ?_ ?_
       rotate_left
       ·simp only [Act.put,List.setIfInBounds_toArray,List.set_cons_zero,List.set_cons_succ,i64_w,i32_w]
        rfl
       refine pure_ (i:=5) (N:=some 38) (v:=undef) (a':=?_) #[true,true,true,true,true,true,false,false,false,false] rfl rfl (any_of HT_.out (by kernel_rfl)) (fun _ _ _ h=>h) (Or.inr ⟨by rfl,rfl⟩) ?_ ?_
       rotate_left
       ·simp only [Act.put,List.setIfInBounds_toArray,List.set_cons_zero,List.set_cons_succ,i64_w,i32_w]
        rfl
       refine pure_ (i:=6) (N:=some 39) (v:=undef) (a':=?_) #[true,true,true,true,true,true,true,false,false,false] rfl rfl (any_of HT_.out (by kernel_rfl)) (fun _ _ _ h=>h) (Or.inr ⟨by rfl,rfl⟩) ?_ ?_
       rotate_left
       ·simp only [Act.put,List.setIfInBounds_toArray,List.set_cons_zero,List.set_cons_succ,i64_w,i32_w]
        rfl
       refine pure_ (i:=7) (N:=some 40) (v:=undef) (a':=?_) #[true,true,true,true,true,true,true,true,false,false] rfl rfl (any_of HT_.out (by kernel_rfl)) (fun _ _ _ h=>h) (Or.inr ⟨by rfl,rfl⟩) ?_ ?_
       rotate_left
       ·simp only [Act.put,List.setIfInBounds_toArray,List.set_cons_zero,List.set_cons_succ,i64_w,i32_w]
        rfl
       refine pure_ (i:=8) (N:=some 41) (v:=undef) (a':=?_) #[true,true,true,true,true,true,true,true,true,false] rfl rfl (any_of HT_.out (by kernel_rfl)) (fun _ _ _ h=>h) (Or.inr ⟨by rfl,rfl⟩) ?_ ?_
       rotate_left
       ·simp only [Act.put,List.setIfInBounds_toArray,List.set_cons_zero,List.set_cons_succ,i64_w,i32_w]
        rfl
       refine pure_ (i:=9) (N:=some 42) (v:=?_) (a':=?_) #[true,true,true,true,true,true,true,true,true,true] rfl rfl (any_of HT_.out (by kernel_rfl)) (fun _ _ _ h=>h) (Or.inl ⟨by rfl,?_⟩) ?_ ?_
       rotate_left
       ·intro w'
        go_simp
        with_reducible rfl
       rotate_left
       ·simp only [Act.put,List.setIfInBounds_toArray,List.set_cons_zero,List.set_cons_succ,i64_w,i32_w]
        rfl
       refine done_ (done_of HT_.out (by kernel_rfl)) ?_
       try go_wp2
       go_ret
       exact ⟨by first|rfl|(simp [errW_none,errW_some] <;> rfl)|(simp [*,errW_none,errW_some] <;> rfl),by repeat (first|(with_reducible first|exact HB.out|apply below_alloc|apply pw_below_drewN|apply below_drew1|refine below_set ?_ GE189.out|refine below_set ?_ GE199.out)|exact HB.out)⟩
     ·rw [if_neg c18] at H
      have c18b0 : (t193 == 0) = false:=beq_eq_false_iff_ne.mpr c18
      have c18b1 : (t193 != 0) = true:=bne_iff_ne.mpr c18
      (first|rw [c18b0]|(simp only [i64_w,i32_w];rw [c18b0])|skip)
      have H':=Aside0.mk H
      clear H
      go_wp2
      go_meet
      case rel=>exact ⟨_,H',⟨by have:=HJ2.out;first|omega|exact Nat.le_refl _⟩,⟨by (with_reducible repeat (first|apply blk_drewN|apply blk_drew|apply blk_alloc));exact BK189.out⟩,⟨by repeat (first|(with_reducible first|exact HB.out|apply below_alloc|apply pw_below_drewN|apply below_drew1|refine below_set ?_ GE189.out)|exact HB.out)⟩⟩
    case rest =>
     clear HC15
     try clear c1
     try clear c2
     try clear p2
     try clear c3
     try clear c5
     try clear c11
     try clear c18
     try clear c18b0
     try clear c18b1
     try clear c20
     try clear c20b0
     try clear c20b1
     try clear c23
     try clear c24
     try clear c26
     try clear c27
     try clear c30
     try clear c31
     try clear c39
     try clear c51
     try clear hcz16_0
     try clear hcz16_1
     try clear hcz28_0
     try clear hcz28_1
     try clear hcz40_0
     try clear hcz40_1
     try clear hcz52_0
     try clear hcz52_1
     try clear hfz16_0
     try clear hfz16_1
     try clear hfz28_0
     try clear hfz28_1
     try clear hfz40_0
     try clear hfz40_1
     try clear hfz52_0
     try clear hfz52_1
     obtain ⟨kq,HA,HJ14,BK189,HB⟩:=hcut
     cases kq with
     | zero=>exact absurd HA.out (by simp [bosunlaw18_CktwoBack.j1])
     | succ kj14 =>
      have H:=HA.out
      clear HA
      simp only [bosunlaw18_CktwoBack.j1] at H
      replace H:=Option.bind_eq_some_iff.mp H
      obtain ⟨⟨t209,t210,t213⟩,A560,H⟩:=H
      replace H : (if t213 = 0 then ((cktwo_Encode.f kj14 t209 t210).bind fun bt215=>((bosunlaw18_Awake.f kj14).bind fun t217=>(if t217 = true then (if bt215.2 = 0 then (some (bt215.1.toList == a1.toList)) else (some false)) else (some false)))) else ((bosunlaw18_Awake.f kj14).bind fun t218=>(if t218 = true then (if t209 = 0 then (some ((t210.length : Int) == 0)) else (some false)) else (some false)))) = some r:=H
      have A56:=Aside0.mk A560
      clear A560
      by_cases c57 : t213 = 0
      ·rw [if_pos c57] at H
       have c57b0 : (t213 == 0) = true:=beq_iff_eq.mpr c57
       have c57b1 : (t213 != 0) = false:=bne_eq_false_iff_eq.mpr c57
       clear c57
       replace H:=Option.bind_eq_some_iff.mp H
       obtain ⟨⟨t215,t216⟩,A580,H⟩:=H
       replace H : ((bosunlaw18_Awake.f kj14).bind fun t217=>(if t217 = true then (if t216 = 0 then (some (t215.toList == a1.toList)) else (some false)) else (some false))) = some r:=H
       have A58:=Aside0.mk A580
       clear A580
       replace H:=Option.bind_eq_some_iff.mp H
       obtain ⟨t217,A590,H⟩:=H
       replace H : (if t217 = true then (if t216 = 0 then (some (t215.toList == a1.toList)) else (some false)) else (some false)) = some r:=H
       have A59:=Aside0.mk A590
       clear A590
       by_cases c60 : t217 = true
       ·subst c60
        have H1 : (if t216 = 0 then (some (t215.toList == a1.toList)) else (some false)) = some r:=by rw [if_pos rfl] at H;exact H
        clear H
        have H:=H1
        clear H1
        by_cases c61 : t216 = 0
        ·rw [if_pos c61] at H
         have c61b0 : (t216 == 0) = true:=beq_iff_eq.mpr c61
         have c61b1 : (t216 != 0) = false:=bne_eq_false_iff_eq.mpr c61
         clear c61
         obtain rfl:=Option.some.inj H
         go_wp2_with (first|((with_reducible refine gate_callee (f:=31) rfl ?_);refine goesL_ (some 45) rfl rfl Tryd.func31 (by kernel_rfl) rfl #[.string a1] rfl (by (try simp only [List.map_toArray,List.map_cons,List.map_nil]);first|done|rfl|(simp only [List.length_drop,List.length_take];rfl)|(simp (disch:=first|omega|(simp at *;omega)) only [u64_id,i64_id,u8_id];rfl)) ?_;(with_reducible refine (cktwo_Decode.calls kj14 a1 t209 t210 t213 _ A56.out).mono ?_);rintro e w62 ⟨v211,rfl,ho0,hb⟩;refine ⟨_,rfl,?_⟩;have n0_:=Aside0.mk (Kd.S_lower ho0 (below_size (by repeat (first|(with_reducible first|exact HB.out|apply below_alloc|apply pw_below_drewN|apply below_drew1|refine below_set ?_ GE189.out)|exact HB.out))));have n1_:=Aside0.mk (blk_below (g:=gb189) (o:=.cells #[.int .u64 a0_0,.slice A0_1 l0_1.length c0_1] 49 (0,0)) (by (with_reducible repeat (first|apply blk_drewN|apply blk_drew|apply blk_alloc));exact BK189.out) hb);have n2_:=Aside0.mk (below_step (by repeat (first|(with_reducible first|exact HB.out|apply below_alloc|apply pw_below_drewN|apply below_drew1|refine below_set ?_ GE189.out)|exact HB.out)) hb);clear BK189;clear HB;have HO212:=n0_;have BK189:=n1_;have HB:=n2_;clear n0_ n1_ n2_;(try clear hb);(try clear hb2);(try clear hk);(try clear hi);(try clear ho0))|((with_reducible refine gate_dst (N:=9) rfl ?_);refine box_event ?hg (N:=9) ?hd (cs:=#[.int .u64 0,.slice none 0 0]) (t:=49) ?hr ?_;(case hd=>rfl);(case hg=>rfl);(case hr=>first|(go_simp;done)|(go_simp;rfl));intro gb214 hg w63 hbox hb;have n0_:=Aside0.mk (Kd.S_below (by (with_reducible repeat (first|apply Kd.S_alloc|apply Kd.S_drewN|apply Kd.S_drew));exact HO212.out) hb);have n1_:=Aside0.mk (blk_below (g:=gb189) (o:=.cells #[.int .u64 a0_0,.slice A0_1 l0_1.length c0_1] 49 (0,0)) (by (with_reducible repeat (first|apply blk_drewN|apply blk_drew|apply blk_alloc));exact BK189.out) hb);have n2_:=Aside0.mk (below_step (by repeat (first|(with_reducible first|exact HB.out|apply below_alloc|apply pw_below_drewN|apply below_drew1|refine below_set ?_ GE189.out)|exact HB.out)) hb);have n3_:=Aside0.mk (hbox);have n4_:=Aside0.mk ((by rw [hg];exact (below_size (by repeat (first|(with_reducible first|exact HB.out|apply below_alloc|apply pw_below_drewN|apply below_drew1|refine below_set ?_ GE189.out)|exact HB.out))) : w.heap.size ≤ gb214));have n5_:=Aside0.mk ((by rw [hg];exact (below_size (by repeat (first|(with_reducible first|exact HB.out|apply below_alloc|apply pw_below_drewN|apply below_drew1|refine below_set ?_ GE189.out)|exact HB.out))) : w.heap.size ≤ gb214));have n6_:=Aside0.mk ((by rw [hg];exact Nat.ne_of_lt (blk_lt (g:=gb189) (o:=.cells #[.int .u64 a0_0,.slice A0_1 l0_1.length c0_1] 49 (0,0)) (by (with_reducible repeat (first|apply blk_drewN|apply blk_drew|apply blk_alloc));exact BK189.out)) : gb189 ≠ gb214));have n7_:=Aside0.mk ((by rw [hg];exact Nat.ne_of_gt (blk_lt (g:=gb189) (o:=.cells #[.int .u64 a0_0,.slice A0_1 l0_1.length c0_1] 49 (0,0)) (by (with_reducible repeat (first|apply blk_drewN|apply blk_drew|apply blk_alloc));exact BK189.out)) : gb214 ≠ gb189));clear HO212;clear BK189;clear HB;have HO212:=n0_;have BK189:=n1_;have HB:=n2_;have BK214:=n3_;have GW214:=n4_;have GE214:=n5_;have NB189_214:=n6_;have NB214_189:=n7_;clear n0_ n1_ n2_ n3_ n4_ n5_ n6_ n7_;clear hb hbox hg;have hnb64:=NB214_189.out;have hnc64:=NB189_214.out;have hcz65_0 : w63.cell? ⟨gb214,0,none⟩ = some (.int .u64 0):=(blk_cell BK214.out 0).trans rfl;have hcz65_1 : w63.cell? ⟨gb214,1,none⟩ = some (.slice none 0 0):=(blk_cell BK214.out 1).trans rfl;have hfz65_0:=blk_frozen BK214.out 0;have hfz65_1:=blk_frozen BK214.out 1;obtain ⟨Ao66,co66,eo66⟩:=Kd.S_slice HO212.out;subst eo66)|((with_reducible refine gate_callee (f:=26) rfl ?_);refine goesL_ (some 64) rfl rfl Tryd.func26 (by kernel_rfl) rfl #[.agg #[.int .u64 t209,.slice Ao66 t210.length co66]] rfl (by (try simp only [List.map_toArray,List.map_cons,List.map_nil]);first|done|rfl|(simp only [List.length_drop,List.length_take];rfl)|(simp (disch:=first|omega|(simp at *;omega)) only [u64_id,i64_id,u8_id];rfl)) ?_;(with_reducible refine (cktwo_Encode.calls kj14 t209 _ _ t210 t215 t216 _ ?side1 ?side2 A58.out).mono ?_);(case side1=>refine (Kd.S_reads' (e:=98) (base:=w.heap.size) (ok:=fun k_=>True) (n:=t210.length) (c:=co66) ?_).2.2;exact (by (with_reducible repeat (first|apply Kd.S_alloc|apply Kd.S_drewN|apply Kd.S_drew));exact (Kd.S_mono (Kd.S_far (p:=⟨gb214,1,none⟩) (Kd.S_far (p:=⟨gb214,0,none⟩) (Kd.S_types HO212.out BK214.out (by decide)) (fun _ hk=>hk.2) (.int .u64 t209)) (fun _ hk=>hk.2) (.slice Ao66 t210.length co66)) (fun _ h_=>h_.1))));(case side2=>exact (Kd.S_reads' HO212.out).2.1);rintro e w67 ⟨rfl,hb⟩;refine ⟨_,rfl,?_⟩;have n0_:=Aside0.mk (Kd.S_below (by (with_reducible repeat (first|apply Kd.S_alloc|apply Kd.S_drewN|apply Kd.S_drew));exact (Kd.S_mono (Kd.S_far (p:=⟨gb214,1,none⟩) (Kd.S_far (p:=⟨gb214,0,none⟩) (Kd.S_types HO212.out BK214.out (by decide)) (fun _ hk=>hk.2) (.int .u64 t209)) (fun _ hk=>hk.2) (.slice Ao66 t210.length co66)) (fun _ h_=>h_.1))) hb);have n1_:=Aside0.mk (blk_below (g:=gb189) (o:=.cells #[.int .u64 a0_0,.slice A0_1 l0_1.length c0_1] 49 (0,0)) (by (with_reducible repeat (first|apply blk_drewN|apply blk_drew|apply blk_alloc));refine blk_far ?_ NB189_214.out _;(with_reducible repeat (first|apply blk_drewN|apply blk_drew|apply blk_alloc));refine blk_far ?_ NB189_214.out _;(with_reducible repeat (first|apply blk_drewN|apply blk_drew|apply blk_alloc));exact BK189.out) hb);have n2_:=Aside0.mk (blk_below (g:=gb214) (o:=.cells #[.int .u64 t209,.slice Ao66 t210.length co66] 49 (0,0)) (by (with_reducible repeat (first|apply blk_drewN|apply blk_drew|apply blk_alloc));refine blk_put (cs:=#[.int .u64 t209,.slice none 0 0]) ?_ 1 _ rfl;(with_reducible repeat (first|apply blk_drewN|apply blk_drew|apply blk_alloc));refine blk_put (cs:=#[.int .u64 0,.slice none 0 0]) ?_ 0 _ rfl;(with_reducible repeat (first|apply blk_drewN|apply blk_drew|apply blk_alloc));exact BK214.out) hb);have n3_:=Aside0.mk (below_step (by repeat (first|(with_reducible first|exact HB.out|apply below_alloc|apply pw_below_drewN|apply below_drew1|refine below_set ?_ GE189.out|refine below_set ?_ GE214.out)|exact HB.out)) hb);clear HO212;clear BK189;clear BK214;clear HB;have HO212:=n0_;have BK189:=n1_;have BK214:=n2_;have HB:=n3_;clear n0_ n1_ n2_ n3_;(try clear hb);(try clear hb2);(try clear hk);(try clear hi))|((with_reducible refine gate_callee (f:=23) rfl ?_);refine goesL_ (some 67) rfl rfl Tryd.func23 (by kernel_rfl) rfl #[] rfl (by (try simp only [List.map_toArray,List.map_cons,List.map_nil]);first|done|rfl|(simp only [List.length_drop,List.length_take];rfl)|(simp (disch:=first|omega|(simp at *;omega)) only [u64_id,i64_id,u8_id];rfl)) ?_;(with_reducible refine (bosunlaw18_Awake.calls kj14  true _ A59.out).mono ?_);rintro e w68 ⟨rfl,hb⟩;refine ⟨_,rfl,?_⟩;have n0_:=Aside0.mk (Kd.S_below (by (with_reducible repeat (first|apply Kd.S_alloc|apply Kd.S_drewN|apply Kd.S_drew));exact HO212.out) hb);have n1_:=Aside0.mk (blk_below (g:=gb189) (o:=.cells #[.int .u64 a0_0,.slice A0_1 l0_1.length c0_1] 49 (0,0)) (by (with_reducible repeat (first|apply blk_drewN|apply blk_drew|apply blk_alloc));exact BK189.out) hb);have n2_:=Aside0.mk (blk_below (g:=gb214) (o:=.cells #[.int .u64 t209,.slice Ao66 t210.length co66] 49 (0,0)) (by (with_reducible repeat (first|apply blk_drewN|apply blk_drew|apply blk_alloc));exact BK214.out) hb);have n3_:=Aside0.mk (below_step (by repeat (first|(with_reducible first|exact HB.out|apply below_alloc|apply pw_below_drewN|apply below_drew1|refine below_set ?_ GE189.out|refine below_set ?_ GE214.out)|exact HB.out)) hb);clear HO212;clear BK189;clear BK214;clear HB;have HO212:=n0_;have BK189:=n1_;have BK214:=n2_;have HB:=n3_;clear n0_ n1_ n2_ n3_;(try clear hb);(try clear hb2);(try clear hk);(try clear hi)))
         go_ret
         exact ⟨by first|rfl|(simp [errW_none,errW_some] <;> rfl)|(simp [*,errW_none,errW_some] <;> rfl),by repeat (first|(with_reducible first|exact HB.out|apply below_alloc|apply pw_below_drewN|apply below_drew1|refine below_set ?_ GE189.out|refine below_set ?_ GE214.out)|exact HB.out)⟩
        ·rw [if_neg c61] at H
         have c61b0 : (t216 == 0) = false:=beq_eq_false_iff_ne.mpr c61
         have c61b1 : (t216 != 0) = true:=bne_iff_ne.mpr c61
         obtain rfl:=Option.some.inj H
         go_wp2_with (first|((with_reducible refine gate_callee (f:=31) rfl ?_);refine goesL_ (some 45) rfl rfl Tryd.func31 (by kernel_rfl) rfl #[.string a1] rfl (by (try simp only [List.map_toArray,List.map_cons,List.map_nil]);first|done|rfl|(simp only [List.length_drop,List.length_take];rfl)|(simp (disch:=first|omega|(simp at *;omega)) only [u64_id,i64_id,u8_id];rfl)) ?_;(with_reducible refine (cktwo_Decode.calls kj14 a1 t209 t210 t213 _ A56.out).mono ?_);rintro e w69 ⟨v211,rfl,ho0,hb⟩;refine ⟨_,rfl,?_⟩;have n0_:=Aside0.mk (Kd.S_lower ho0 (below_size (by repeat (first|(with_reducible first|exact HB.out|apply below_alloc|apply pw_below_drewN|apply below_drew1|refine below_set ?_ GE189.out)|exact HB.out))));have n1_:=Aside0.mk (blk_below (g:=gb189) (o:=.cells #[.int .u64 a0_0,.slice A0_1 l0_1.length c0_1] 49 (0,0)) (by (with_reducible repeat (first|apply blk_drewN|apply blk_drew|apply blk_alloc));exact BK189.out) hb);have n2_:=Aside0.mk (below_step (by repeat (first|(with_reducible first|exact HB.out|apply below_alloc|apply pw_below_drewN|apply below_drew1|refine below_set ?_ GE189.out)|exact HB.out)) hb);clear BK189;clear HB;have HO212:=n0_;have BK189:=n1_;have HB:=n2_;clear n0_ n1_ n2_;(try clear hb);(try clear hb2);(try clear hk);(try clear hi);(try clear ho0))|((with_reducible refine gate_dst (N:=9) rfl ?_);refine box_event ?hg (N:=9) ?hd (cs:=#[.int .u64 0,.slice none 0 0]) (t:=49) ?hr ?_;(case hd=>rfl);(case hg=>rfl);(case hr=>first|(go_simp;done)|(go_simp;rfl));intro gb214 hg w70 hbox hb;have n0_:=Aside0.mk (Kd.S_below (by (with_reducible repeat (first|apply Kd.S_alloc|apply Kd.S_drewN|apply Kd.S_drew));exact HO212.out) hb);have n1_:=Aside0.mk (blk_below (g:=gb189) (o:=.cells #[.int .u64 a0_0,.slice A0_1 l0_1.length c0_1] 49 (0,0)) (by (with_reducible repeat (first|apply blk_drewN|apply blk_drew|apply blk_alloc));exact BK189.out) hb);have n2_:=Aside0.mk (below_step (by repeat (first|(with_reducible first|exact HB.out|apply below_alloc|apply pw_below_drewN|apply below_drew1|refine below_set ?_ GE189.out)|exact HB.out)) hb);have n3_:=Aside0.mk (hbox);have n4_:=Aside0.mk ((by rw [hg];exact (below_size (by repeat (first|(with_reducible first|exact HB.out|apply below_alloc|apply pw_below_drewN|apply below_drew1|refine below_set ?_ GE189.out)|exact HB.out))) : w.heap.size ≤ gb214));have n5_:=Aside0.mk ((by rw [hg];exact (below_size (by repeat (first|(with_reducible first|exact HB.out|apply below_alloc|apply pw_below_drewN|apply below_drew1|refine below_set ?_ GE189.out)|exact HB.out))) : w.heap.size ≤ gb214));have n6_:=Aside0.mk ((by rw [hg];exact Nat.ne_of_lt (blk_lt (g:=gb189) (o:=.cells #[.int .u64 a0_0,.slice A0_1 l0_1.length c0_1] 49 (0,0)) (by (with_reducible repeat (first|apply blk_drewN|apply blk_drew|apply blk_alloc));exact BK189.out)) : gb189 ≠ gb214));have n7_:=Aside0.mk ((by rw [hg];exact Nat.ne_of_gt (blk_lt (g:=gb189) (o:=.cells #[.int .u64 a0_0,.slice A0_1 l0_1.length c0_1] 49 (0,0)) (by (with_reducible repeat (first|apply blk_drewN|apply blk_drew|apply blk_alloc));exact BK189.out)) : gb214 ≠ gb189));clear HO212;clear BK189;clear HB;have HO212:=n0_;have BK189:=n1_;have HB:=n2_;have BK214:=n3_;have GW214:=n4_;have GE214:=n5_;have NB189_214:=n6_;have NB214_189:=n7_;clear n0_ n1_ n2_ n3_ n4_ n5_ n6_ n7_;clear hb hbox hg;have hnb71:=NB214_189.out;have hnc71:=NB189_214.out;have hcz72_0 : w70.cell? ⟨gb214,0,none⟩ = some (.int .u64 0):=(blk_cell BK214.out 0).trans rfl;have hcz72_1 : w70.cell? ⟨gb214,1,none⟩ = some (.slice none 0 0):=(blk_cell BK214.out 1).trans rfl;have hfz72_0:=blk_frozen BK214.out 0;have hfz72_1:=blk_frozen BK214.out 1;obtain ⟨Ao73,co73,eo73⟩:=Kd.S_slice HO212.out;subst eo73)|((with_reducible refine gate_callee (f:=26) rfl ?_);refine goesL_ (some 64) rfl rfl Tryd.func26 (by kernel_rfl) rfl #[.agg #[.int .u64 t209,.slice Ao73 t210.length co73]] rfl (by (try simp only [List.map_toArray,List.map_cons,List.map_nil]);first|done|rfl|(simp only [List.length_drop,List.length_take];rfl)|(simp (disch:=first|omega|(simp at *;omega)) only [u64_id,i64_id,u8_id];rfl)) ?_;(with_reducible refine (cktwo_Encode.calls kj14 t209 _ _ t210 t215 t216 _ ?side1 ?side2 A58.out).mono ?_);(case side1=>refine (Kd.S_reads' (e:=98) (base:=w.heap.size) (ok:=fun k_=>True) (n:=t210.length) (c:=co73) ?_).2.2;exact (by (with_reducible repeat (first|apply Kd.S_alloc|apply Kd.S_drewN|apply Kd.S_drew));exact (Kd.S_mono (Kd.S_far (p:=⟨gb214,1,none⟩) (Kd.S_far (p:=⟨gb214,0,none⟩) (Kd.S_types HO212.out BK214.out (by decide)) (fun _ hk=>hk.2) (.int .u64 t209)) (fun _ hk=>hk.2) (.slice Ao73 t210.length co73)) (fun _ h_=>h_.1))));(case side2=>exact (Kd.S_reads' HO212.out).2.1);rintro e w74 ⟨rfl,hb⟩;refine ⟨_,rfl,?_⟩;have n0_:=Aside0.mk (Kd.S_below (by (with_reducible repeat (first|apply Kd.S_alloc|apply Kd.S_drewN|apply Kd.S_drew));exact (Kd.S_mono (Kd.S_far (p:=⟨gb214,1,none⟩) (Kd.S_far (p:=⟨gb214,0,none⟩) (Kd.S_types HO212.out BK214.out (by decide)) (fun _ hk=>hk.2) (.int .u64 t209)) (fun _ hk=>hk.2) (.slice Ao73 t210.length co73)) (fun _ h_=>h_.1))) hb);have n1_:=Aside0.mk (blk_below (g:=gb189) (o:=.cells #[.int .u64 a0_0,.slice A0_1 l0_1.length c0_1] 49 (0,0)) (by (with_reducible repeat (first|apply blk_drewN|apply blk_drew|apply blk_alloc));refine blk_far ?_ NB189_214.out _;(with_reducible repeat (first|apply blk_drewN|apply blk_drew|apply blk_alloc));refine blk_far ?_ NB189_214.out _;(with_reducible repeat (first|apply blk_drewN|apply blk_drew|apply blk_alloc));exact BK189.out) hb);have n2_:=Aside0.mk (blk_below (g:=gb214) (o:=.cells #[.int .u64 t209,.slice Ao73 t210.length co73] 49 (0,0)) (by (with_reducible repeat (first|apply blk_drewN|apply blk_drew|apply blk_alloc));refine blk_put (cs:=#[.int .u64 t209,.slice none 0 0]) ?_ 1 _ rfl;(with_reducible repeat (first|apply blk_drewN|apply blk_drew|apply blk_alloc));refine blk_put (cs:=#[.int .u64 0,.slice none 0 0]) ?_ 0 _ rfl;(with_reducible repeat (first|apply blk_drewN|apply blk_drew|apply blk_alloc));exact BK214.out) hb);have n3_:=Aside0.mk (below_step (by repeat (first|(with_reducible first|exact HB.out|apply below_alloc|apply pw_below_drewN|apply below_drew1|refine below_set ?_ GE189.out|refine below_set ?_ GE214.out)|exact HB.out)) hb);clear HO212;clear BK189;clear BK214;clear HB;have HO212:=n0_;have BK189:=n1_;have BK214:=n2_;have HB:=n3_;clear n0_ n1_ n2_ n3_;(try clear hb);(try clear hb2);(try clear hk);(try clear hi))|((with_reducible refine gate_callee (f:=23) rfl ?_);refine goesL_ (some 67) rfl rfl Tryd.func23 (by kernel_rfl) rfl #[] rfl (by (try simp only [List.map_toArray,List.map_cons,List.map_nil]);first|done|rfl|(simp only [List.length_drop,List.length_take];rfl)|(simp (disch:=first|omega|(simp at *;omega)) only [u64_id,i64_id,u8_id];rfl)) ?_;(with_reducible refine (bosunlaw18_Awake.calls kj14  true _ A59.out).mono ?_);rintro e w75 ⟨rfl,hb⟩;refine ⟨_,rfl,?_⟩;have n0_:=Aside0.mk (Kd.S_below (by (with_reducible repeat (first|apply Kd.S_alloc|apply Kd.S_drewN|apply Kd.S_drew));exact HO212.out) hb);have n1_:=Aside0.mk (blk_below (g:=gb189) (o:=.cells #[.int .u64 a0_0,.slice A0_1 l0_1.length c0_1] 49 (0,0)) (by (with_reducible repeat (first|apply blk_drewN|apply blk_drew|apply blk_alloc));exact BK189.out) hb);have n2_:=Aside0.mk (blk_below (g:=gb214) (o:=.cells #[.int .u64 t209,.slice Ao73 t210.length co73] 49 (0,0)) (by (with_reducible repeat (first|apply blk_drewN|apply blk_drew|apply blk_alloc));exact BK214.out) hb);have n3_:=Aside0.mk (below_step (by repeat (first|(with_reducible first|exact HB.out|apply below_alloc|apply pw_below_drewN|apply below_drew1|refine below_set ?_ GE189.out|refine below_set ?_ GE214.out)|exact HB.out)) hb);clear HO212;clear BK189;clear BK214;clear HB;have HO212:=n0_;have BK189:=n1_;have BK214:=n2_;have HB:=n3_;clear n0_ n1_ n2_ n3_;(try clear hb);(try clear hb2);(try clear hk);(try clear hi)))
         go_ret
         exact ⟨by first|rfl|(simp [errW_none,errW_some] <;> rfl)|(simp [*,errW_none,errW_some] <;> rfl),by repeat (first|(with_reducible first|exact HB.out|apply below_alloc|apply pw_below_drewN|apply below_drew1|refine below_set ?_ GE189.out|refine below_set ?_ GE214.out)|exact HB.out)⟩
       ·replace c60:=Bool.eq_false_iff.mpr c60
        subst c60
        have H1 : (some false) = some r:=by rw [if_neg (show ¬ (false = true) by decide)] at H;exact H
        clear H
        have H:=H1
        clear H1
        obtain rfl:=Option.some.inj H
        go_wp2_with (first|((with_reducible refine gate_callee (f:=31) rfl ?_);refine goesL_ (some 45) rfl rfl Tryd.func31 (by kernel_rfl) rfl #[.string a1] rfl (by (try simp only [List.map_toArray,List.map_cons,List.map_nil]);first|done|rfl|(simp only [List.length_drop,List.length_take];rfl)|(simp (disch:=first|omega|(simp at *;omega)) only [u64_id,i64_id,u8_id];rfl)) ?_;(with_reducible refine (cktwo_Decode.calls kj14 a1 t209 t210 t213 _ A56.out).mono ?_);rintro e w76 ⟨v211,rfl,ho0,hb⟩;refine ⟨_,rfl,?_⟩;have n0_:=Aside0.mk (Kd.S_lower ho0 (below_size (by repeat (first|(with_reducible first|exact HB.out|apply below_alloc|apply pw_below_drewN|apply below_drew1|refine below_set ?_ GE189.out)|exact HB.out))));have n1_:=Aside0.mk (blk_below (g:=gb189) (o:=.cells #[.int .u64 a0_0,.slice A0_1 l0_1.length c0_1] 49 (0,0)) (by (with_reducible repeat (first|apply blk_drewN|apply blk_drew|apply blk_alloc));exact BK189.out) hb);have n2_:=Aside0.mk (below_step (by repeat (first|(with_reducible first|exact HB.out|apply below_alloc|apply pw_below_drewN|apply below_drew1|refine below_set ?_ GE189.out)|exact HB.out)) hb);clear BK189;clear HB;have HO212:=n0_;have BK189:=n1_;have HB:=n2_;clear n0_ n1_ n2_;(try clear hb);(try clear hb2);(try clear hk);(try clear hi);(try clear ho0))|((with_reducible refine gate_dst (N:=9) rfl ?_);refine box_event ?hg (N:=9) ?hd (cs:=#[.int .u64 0,.slice none 0 0]) (t:=49) ?hr ?_;(case hd=>rfl);(case hg=>rfl);(case hr=>first|(go_simp;done)|(go_simp;rfl));intro gb214 hg w77 hbox hb;have n0_:=Aside0.mk (Kd.S_below (by (with_reducible repeat (first|apply Kd.S_alloc|apply Kd.S_drewN|apply Kd.S_drew));exact HO212.out) hb);have n1_:=Aside0.mk (blk_below (g:=gb189) (o:=.cells #[.int .u64 a0_0,.slice A0_1 l0_1.length c0_1] 49 (0,0)) (by (with_reducible repeat (first|apply blk_drewN|apply blk_drew|apply blk_alloc));exact BK189.out) hb);have n2_:=Aside0.mk (below_step (by repeat (first|(with_reducible first|exact HB.out|apply below_alloc|apply pw_below_drewN|apply below_drew1|refine below_set ?_ GE189.out)|exact HB.out)) hb);have n3_:=Aside0.mk (hbox);have n4_:=Aside0.mk ((by rw [hg];exact (below_size (by repeat (first|(with_reducible first|exact HB.out|apply below_alloc|apply pw_below_drewN|apply below_drew1|refine below_set ?_ GE189.out)|exact HB.out))) : w.heap.size ≤ gb214));have n5_:=Aside0.mk ((by rw [hg];exact (below_size (by repeat (first|(with_reducible first|exact HB.out|apply below_alloc|apply pw_below_drewN|apply below_drew1|refine below_set ?_ GE189.out)|exact HB.out))) : w.heap.size ≤ gb214));have n6_:=Aside0.mk ((by rw [hg];exact Nat.ne_of_lt (blk_lt (g:=gb189) (o:=.cells #[.int .u64 a0_0,.slice A0_1 l0_1.length c0_1] 49 (0,0)) (by (with_reducible repeat (first|apply blk_drewN|apply blk_drew|apply blk_alloc));exact BK189.out)) : gb189 ≠ gb214));have n7_:=Aside0.mk ((by rw [hg];exact Nat.ne_of_gt (blk_lt (g:=gb189) (o:=.cells #[.int .u64 a0_0,.slice A0_1 l0_1.length c0_1] 49 (0,0)) (by (with_reducible repeat (first|apply blk_drewN|apply blk_drew|apply blk_alloc));exact BK189.out)) : gb214 ≠ gb189));clear HO212;clear BK189;clear HB;have HO212:=n0_;have BK189:=n1_;have HB:=n2_;have BK214:=n3_;have GW214:=n4_;have GE214:=n5_;have NB189_214:=n6_;have NB214_189:=n7_;clear n0_ n1_ n2_ n3_ n4_ n5_ n6_ n7_;clear hb hbox hg;have hnb78:=NB214_189.out;have hnc78:=NB189_214.out;have hcz79_0 : w77.cell? ⟨gb214,0,none⟩ = some (.int .u64 0):=(blk_cell BK214.out 0).trans rfl;have hcz79_1 : w77.cell? ⟨gb214,1,none⟩ = some (.slice none 0 0):=(blk_cell BK214.out 1).trans rfl;have hfz79_0:=blk_frozen BK214.out 0;have hfz79_1:=blk_frozen BK214.out 1;obtain ⟨Ao80,co80,eo80⟩:=Kd.S_slice HO212.out;subst eo80)|((with_reducible refine gate_callee (f:=26) rfl ?_);refine goesL_ (some 64) rfl rfl Tryd.func26 (by kernel_rfl) rfl #[.agg #[.int .u64 t209,.slice Ao80 t210.length co80]] rfl (by (try simp only [List.map_toArray,List.map_cons,List.map_nil]);first|done|rfl|(simp only [List.length_drop,List.length_take];rfl)|(simp (disch:=first|omega|(simp at *;omega)) only [u64_id,i64_id,u8_id];rfl)) ?_;(with_reducible refine (cktwo_Encode.calls kj14 t209 _ _ t210 t215 t216 _ ?side1 ?side2 A58.out).mono ?_);(case side1=>refine (Kd.S_reads' (e:=98) (base:=w.heap.size) (ok:=fun k_=>True) (n:=t210.length) (c:=co80) ?_).2.2;exact (by (with_reducible repeat (first|apply Kd.S_alloc|apply Kd.S_drewN|apply Kd.S_drew));exact (Kd.S_mono (Kd.S_far (p:=⟨gb214,1,none⟩) (Kd.S_far (p:=⟨gb214,0,none⟩) (Kd.S_types HO212.out BK214.out (by decide)) (fun _ hk=>hk.2) (.int .u64 t209)) (fun _ hk=>hk.2) (.slice Ao80 t210.length co80)) (fun _ h_=>h_.1))));(case side2=>exact (Kd.S_reads' HO212.out).2.1);rintro e w81 ⟨rfl,hb⟩;refine ⟨_,rfl,?_⟩;have n0_:=Aside0.mk (Kd.S_below (by (with_reducible repeat (first|apply Kd.S_alloc|apply Kd.S_drewN|apply Kd.S_drew));exact (Kd.S_mono (Kd.S_far (p:=⟨gb214,1,none⟩) (Kd.S_far (p:=⟨gb214,0,none⟩) (Kd.S_types HO212.out BK214.out (by decide)) (fun _ hk=>hk.2) (.int .u64 t209)) (fun _ hk=>hk.2) (.slice Ao80 t210.length co80)) (fun _ h_=>h_.1))) hb);have n1_:=Aside0.mk (blk_below (g:=gb189) (o:=.cells #[.int .u64 a0_0,.slice A0_1 l0_1.length c0_1] 49 (0,0)) (by (with_reducible repeat (first|apply blk_drewN|apply blk_drew|apply blk_alloc));refine blk_far ?_ NB189_214.out _;(with_reducible repeat (first|apply blk_drewN|apply blk_drew|apply blk_alloc));refine blk_far ?_ NB189_214.out _;(with_reducible repeat (first|apply blk_drewN|apply blk_drew|apply blk_alloc));exact BK189.out) hb);have n2_:=Aside0.mk (blk_below (g:=gb214) (o:=.cells #[.int .u64 t209,.slice Ao80 t210.length co80] 49 (0,0)) (by (with_reducible repeat (first|apply blk_drewN|apply blk_drew|apply blk_alloc));refine blk_put (cs:=#[.int .u64 t209,.slice none 0 0]) ?_ 1 _ rfl;(with_reducible repeat (first|apply blk_drewN|apply blk_drew|apply blk_alloc));refine blk_put (cs:=#[.int .u64 0,.slice none 0 0]) ?_ 0 _ rfl;(with_reducible repeat (first|apply blk_drewN|apply blk_drew|apply blk_alloc));exact BK214.out) hb);have n3_:=Aside0.mk (below_step (by repeat (first|(with_reducible first|exact HB.out|apply below_alloc|apply pw_below_drewN|apply below_drew1|refine below_set ?_ GE189.out|refine below_set ?_ GE214.out)|exact HB.out)) hb);clear HO212;clear BK189;clear BK214;clear HB;have HO212:=n0_;have BK189:=n1_;have BK214:=n2_;have HB:=n3_;clear n0_ n1_ n2_ n3_;(try clear hb);(try clear hb2);(try clear hk);(try clear hi))|((with_reducible refine gate_callee (f:=23) rfl ?_);refine goesL_ (some 67) rfl rfl Tryd.func23 (by kernel_rfl) rfl #[] rfl (by (try simp only [List.map_toArray,List.map_cons,List.map_nil]);first|done|rfl|(simp only [List.length_drop,List.length_take];rfl)|(simp (disch:=first|omega|(simp at *;omega)) only [u64_id,i64_id,u8_id];rfl)) ?_;(with_reducible refine (bosunlaw18_Awake.calls kj14  false _ A59.out).mono ?_);rintro e w82 ⟨rfl,hb⟩;refine ⟨_,rfl,?_⟩;have n0_:=Aside0.mk (Kd.S_below (by (with_reducible repeat (first|apply Kd.S_alloc|apply Kd.S_drewN|apply Kd.S_drew));exact HO212.out) hb);have n1_:=Aside0.mk (blk_below (g:=gb189) (o:=.cells #[.int .u64 a0_0,.slice A0_1 l0_1.length c0_1] 49 (0,0)) (by (with_reducible repeat (first|apply blk_drewN|apply blk_drew|apply blk_alloc));exact BK189.out) hb);have n2_:=Aside0.mk (blk_below (g:=gb214) (o:=.cells #[.int .u64 t209,.slice Ao80 t210.length co80] 49 (0,0)) (by (with_reducible repeat (first|apply blk_drewN|apply blk_drew|apply blk_alloc));exact BK214.out) hb);have n3_:=Aside0.mk (below_step (by repeat (first|(with_reducible first|exact HB.out|apply below_alloc|apply pw_below_drewN|apply below_drew1|refine below_set ?_ GE189.out|refine below_set ?_ GE214.out)|exact HB.out)) hb);clear HO212;clear BK189;clear BK214;clear HB;have HO212:=n0_;have BK189:=n1_;have BK214:=n2_;have HB:=n3_;clear n0_ n1_ n2_ n3_;(try clear hb);(try clear hb2);(try clear hk);(try clear hi)))
        go_ret
        exact ⟨by first|rfl|(simp [errW_none,errW_some] <;> rfl)|(simp [*,errW_none,errW_some] <;> rfl),by repeat (first|(with_reducible first|exact HB.out|apply below_alloc|apply pw_below_drewN|apply below_drew1|refine below_set ?_ GE189.out|refine below_set ?_ GE214.out)|exact HB.out)⟩
      ·rw [if_neg c57] at H
       have c57b0 : (t213 == 0) = false:=beq_eq_false_iff_ne.mpr c57
       have c57b1 : (t213 != 0) = true:=bne_iff_ne.mpr c57
       replace H:=Option.bind_eq_some_iff.mp H
       obtain ⟨t218,A830,H⟩:=H
       replace H : (if t218 = true then (if t209 = 0 then (some ((t210.length : Int) == 0)) else (some false)) else (some false)) = some r:=H
       have A83:=Aside0.mk A830
       clear A830
       by_cases c84 : t218 = true
       ·subst c84
        have H1 : (if t209 = 0 then (some ((t210.length : Int) == 0)) else (some false)) = some r:=by rw [if_pos rfl] at H;exact H
        clear H
        have H:=H1
        clear H1
        by_cases c85 : t209 = 0
        ·rw [if_pos c85] at H
         have c85b0 : (t209 == 0) = true:=beq_iff_eq.mpr c85
         have c85b1 : (t209 != 0) = false:=bne_eq_false_iff_eq.mpr c85
         clear c85
         obtain rfl:=Option.some.inj H
         go_wp2_with (first|((with_reducible refine gate_callee (f:=31) rfl ?_);refine goesL_ (some 45) rfl rfl Tryd.func31 (by kernel_rfl) rfl #[.string a1] rfl (by (try simp only [List.map_toArray,List.map_cons,List.map_nil]);first|done|rfl|(simp only [List.length_drop,List.length_take];rfl)|(simp (disch:=first|omega|(simp at *;omega)) only [u64_id,i64_id,u8_id];rfl)) ?_;(with_reducible refine (cktwo_Decode.calls kj14 a1 t209 t210 t213 _ A56.out).mono ?_);rintro e w86 ⟨v211,rfl,ho0,hb⟩;refine ⟨_,rfl,?_⟩;have n0_:=Aside0.mk (Kd.S_lower ho0 (below_size (by repeat (first|(with_reducible first|exact HB.out|apply below_alloc|apply pw_below_drewN|apply below_drew1|refine below_set ?_ GE189.out)|exact HB.out))));have n1_:=Aside0.mk (blk_below (g:=gb189) (o:=.cells #[.int .u64 a0_0,.slice A0_1 l0_1.length c0_1] 49 (0,0)) (by (with_reducible repeat (first|apply blk_drewN|apply blk_drew|apply blk_alloc));exact BK189.out) hb);have n2_:=Aside0.mk (below_step (by repeat (first|(with_reducible first|exact HB.out|apply below_alloc|apply pw_below_drewN|apply below_drew1|refine below_set ?_ GE189.out)|exact HB.out)) hb);clear BK189;clear HB;have HO212:=n0_;have BK189:=n1_;have HB:=n2_;clear n0_ n1_ n2_;(try clear hb);(try clear hb2);(try clear hk);(try clear hi);(try clear ho0))|((with_reducible refine gate_dst (N:=9) rfl ?_);refine box_event ?hg (N:=9) ?hd (cs:=#[.int .u64 0,.slice none 0 0]) (t:=49) ?hr ?_;(case hd=>rfl);(case hg=>rfl);(case hr=>first|(go_simp;done)|(go_simp;rfl));intro gb214 hg w87 hbox hb;have n0_:=Aside0.mk (Kd.S_below (by (with_reducible repeat (first|apply Kd.S_alloc|apply Kd.S_drewN|apply Kd.S_drew));exact HO212.out) hb);have n1_:=Aside0.mk (blk_below (g:=gb189) (o:=.cells #[.int .u64 a0_0,.slice A0_1 l0_1.length c0_1] 49 (0,0)) (by (with_reducible repeat (first|apply blk_drewN|apply blk_drew|apply blk_alloc));exact BK189.out) hb);have n2_:=Aside0.mk (below_step (by repeat (first|(with_reducible first|exact HB.out|apply below_alloc|apply pw_below_drewN|apply below_drew1|refine below_set ?_ GE189.out)|exact HB.out)) hb);have n3_:=Aside0.mk (hbox);have n4_:=Aside0.mk ((by rw [hg];exact (below_size (by repeat (first|(with_reducible first|exact HB.out|apply below_alloc|apply pw_below_drewN|apply below_drew1|refine below_set ?_ GE189.out)|exact HB.out))) : w.heap.size ≤ gb214));have n5_:=Aside0.mk ((by rw [hg];exact (below_size (by repeat (first|(with_reducible first|exact HB.out|apply below_alloc|apply pw_below_drewN|apply below_drew1|refine below_set ?_ GE189.out)|exact HB.out))) : w.heap.size ≤ gb214));have n6_:=Aside0.mk ((by rw [hg];exact Nat.ne_of_lt (blk_lt (g:=gb189) (o:=.cells #[.int .u64 a0_0,.slice A0_1 l0_1.length c0_1] 49 (0,0)) (by (with_reducible repeat (first|apply blk_drewN|apply blk_drew|apply blk_alloc));exact BK189.out)) : gb189 ≠ gb214));have n7_:=Aside0.mk ((by rw [hg];exact Nat.ne_of_gt (blk_lt (g:=gb189) (o:=.cells #[.int .u64 a0_0,.slice A0_1 l0_1.length c0_1] 49 (0,0)) (by (with_reducible repeat (first|apply blk_drewN|apply blk_drew|apply blk_alloc));exact BK189.out)) : gb214 ≠ gb189));clear HO212;clear BK189;clear HB;have HO212:=n0_;have BK189:=n1_;have HB:=n2_;have BK214:=n3_;have GW214:=n4_;have GE214:=n5_;have NB189_214:=n6_;have NB214_189:=n7_;clear n0_ n1_ n2_ n3_ n4_ n5_ n6_ n7_;clear hb hbox hg;have hnb88:=NB214_189.out;have hnc88:=NB189_214.out;have hcz89_0 : w87.cell? ⟨gb214,0,none⟩ = some (.int .u64 0):=(blk_cell BK214.out 0).trans rfl;have hcz89_1 : w87.cell? ⟨gb214,1,none⟩ = some (.slice none 0 0):=(blk_cell BK214.out 1).trans rfl;have hfz89_0:=blk_frozen BK214.out 0;have hfz89_1:=blk_frozen BK214.out 1;obtain ⟨Ao90,co90,eo90⟩:=Kd.S_slice HO212.out;subst eo90)|((with_reducible refine gate_callee (f:=23) rfl ?_);refine goesL_ (some 50) rfl rfl Tryd.func23 (by kernel_rfl) rfl #[] rfl (by (try simp only [List.map_toArray,List.map_cons,List.map_nil]);first|done|rfl|(simp only [List.length_drop,List.length_take];rfl)|(simp (disch:=first|omega|(simp at *;omega)) only [u64_id,i64_id,u8_id];rfl)) ?_;(with_reducible refine (bosunlaw18_Awake.calls kj14  true _ A83.out).mono ?_);rintro e w91 ⟨rfl,hb⟩;refine ⟨_,rfl,?_⟩;have n0_:=Aside0.mk (Kd.S_below (by (with_reducible repeat (first|apply Kd.S_alloc|apply Kd.S_drewN|apply Kd.S_drew));exact (Kd.S_mono (Kd.S_far (p:=⟨gb214,1,none⟩) (Kd.S_far (p:=⟨gb214,0,none⟩) (Kd.S_types HO212.out BK214.out (by decide)) (fun _ hk=>hk.2) (.int .u64 t209)) (fun _ hk=>hk.2) (.slice Ao90 t210.length co90)) (fun _ h_=>h_.1))) hb);have n1_:=Aside0.mk (blk_below (g:=gb189) (o:=.cells #[.int .u64 a0_0,.slice A0_1 l0_1.length c0_1] 49 (0,0)) (by (with_reducible repeat (first|apply blk_drewN|apply blk_drew|apply blk_alloc));refine blk_far ?_ NB189_214.out _;(with_reducible repeat (first|apply blk_drewN|apply blk_drew|apply blk_alloc));refine blk_far ?_ NB189_214.out _;(with_reducible repeat (first|apply blk_drewN|apply blk_drew|apply blk_alloc));exact BK189.out) hb);have n2_:=Aside0.mk (blk_below (g:=gb214) (o:=.cells #[.int .u64 t209,.slice Ao90 t210.length co90] 49 (0,0)) (by (with_reducible repeat (first|apply blk_drewN|apply blk_drew|apply blk_alloc));refine blk_put (cs:=#[.int .u64 t209,.slice none 0 0]) ?_ 1 _ rfl;(with_reducible repeat (first|apply blk_drewN|apply blk_drew|apply blk_alloc));refine blk_put (cs:=#[.int .u64 0,.slice none 0 0]) ?_ 0 _ rfl;(with_reducible repeat (first|apply blk_drewN|apply blk_drew|apply blk_alloc));exact BK214.out) hb);have n3_:=Aside0.mk (below_step (by repeat (first|(with_reducible first|exact HB.out|apply below_alloc|apply pw_below_drewN|apply below_drew1|refine below_set ?_ GE189.out|refine below_set ?_ GE214.out)|exact HB.out)) hb);clear HO212;clear BK189;clear BK214;clear HB;have HO212:=n0_;have BK189:=n1_;have BK214:=n2_;have HB:=n3_;clear n0_ n1_ n2_ n3_;(try clear hb);(try clear hb2);(try clear hk);(try clear hi);have hcz92_0 : w91.cell? ⟨gb214,0,none⟩ = some (.int .u64 t209):=(blk_cell BK214.out 0).trans rfl;have hcz92_1 : w91.cell? ⟨gb214,1,none⟩ = some (.slice Ao90 t210.length co90):=(blk_cell BK214.out 1).trans rfl;have hfz92_0:=blk_frozen BK214.out 0;have hfz92_1:=blk_frozen BK214.out 1))
         go_ret
         exact ⟨by first|rfl|(simp [errW_none,errW_some] <;> rfl)|(simp [*,errW_none,errW_some] <;> rfl),by repeat (first|(with_reducible first|exact HB.out|apply below_alloc|apply pw_below_drewN|apply below_drew1|refine below_set ?_ GE189.out|refine below_set ?_ GE214.out)|exact HB.out)⟩
        ·rw [if_neg c85] at H
         have c85b0 : (t209 == 0) = false:=beq_eq_false_iff_ne.mpr c85
         have c85b1 : (t209 != 0) = true:=bne_iff_ne.mpr c85
         obtain rfl:=Option.some.inj H
         go_wp2_with (first|((with_reducible refine gate_callee (f:=31) rfl ?_);refine goesL_ (some 45) rfl rfl Tryd.func31 (by kernel_rfl) rfl #[.string a1] rfl (by (try simp only [List.map_toArray,List.map_cons,List.map_nil]);first|done|rfl|(simp only [List.length_drop,List.length_take];rfl)|(simp (disch:=first|omega|(simp at *;omega)) only [u64_id,i64_id,u8_id];rfl)) ?_;(with_reducible refine (cktwo_Decode.calls kj14 a1 t209 t210 t213 _ A56.out).mono ?_);rintro e w93 ⟨v211,rfl,ho0,hb⟩;refine ⟨_,rfl,?_⟩;have n0_:=Aside0.mk (Kd.S_lower ho0 (below_size (by repeat (first|(with_reducible first|exact HB.out|apply below_alloc|apply pw_below_drewN|apply below_drew1|refine below_set ?_ GE189.out)|exact HB.out))));have n1_:=Aside0.mk (blk_below (g:=gb189) (o:=.cells #[.int .u64 a0_0,.slice A0_1 l0_1.length c0_1] 49 (0,0)) (by (with_reducible repeat (first|apply blk_drewN|apply blk_drew|apply blk_alloc));exact BK189.out) hb);have n2_:=Aside0.mk (below_step (by repeat (first|(with_reducible first|exact HB.out|apply below_alloc|apply pw_below_drewN|apply below_drew1|refine below_set ?_ GE189.out)|exact HB.out)) hb);clear BK189;clear HB;have HO212:=n0_;have BK189:=n1_;have HB:=n2_;clear n0_ n1_ n2_;(try clear hb);(try clear hb2);(try clear hk);(try clear hi);(try clear ho0))|((with_reducible refine gate_dst (N:=9) rfl ?_);refine box_event ?hg (N:=9) ?hd (cs:=#[.int .u64 0,.slice none 0 0]) (t:=49) ?hr ?_;(case hd=>rfl);(case hg=>rfl);(case hr=>first|(go_simp;done)|(go_simp;rfl));intro gb214 hg w94 hbox hb;have n0_:=Aside0.mk (Kd.S_below (by (with_reducible repeat (first|apply Kd.S_alloc|apply Kd.S_drewN|apply Kd.S_drew));exact HO212.out) hb);have n1_:=Aside0.mk (blk_below (g:=gb189) (o:=.cells #[.int .u64 a0_0,.slice A0_1 l0_1.length c0_1] 49 (0,0)) (by (with_reducible repeat (first|apply blk_drewN|apply blk_drew|apply blk_alloc));exact BK189.out) hb);have n2_:=Aside0.mk (below_step (by repeat (first|(with_reducible first|exact HB.out|apply below_alloc|apply pw_below_drewN|apply below_drew1|refine below_set ?_ GE189.out)|exact HB.out)) hb);have n3_:=Aside0.mk (hbox);have n4_:=Aside0.mk ((by rw [hg];exact (below_size (by repeat (first|(with_reducible first|exact HB.out|apply below_alloc|apply pw_below_drewN|apply below_drew1|refine below_set ?_ GE189.out)|exact HB.out))) : w.heap.size ≤ gb214));have n5_:=Aside0.mk ((by rw [hg];exact (below_size (by repeat (first|(with_reducible first|exact HB.out|apply below_alloc|apply pw_below_drewN|apply below_drew1|refine below_set ?_ GE189.out)|exact HB.out))) : w.heap.size ≤ gb214));have n6_:=Aside0.mk ((by rw [hg];exact Nat.ne_of_lt (blk_lt (g:=gb189) (o:=.cells #[.int .u64 a0_0,.slice A0_1 l0_1.length c0_1] 49 (0,0)) (by (with_reducible repeat (first|apply blk_drewN|apply blk_drew|apply blk_alloc));exact BK189.out)) : gb189 ≠ gb214));have n7_:=Aside0.mk ((by rw [hg];exact Nat.ne_of_gt (blk_lt (g:=gb189) (o:=.cells #[.int .u64 a0_0,.slice A0_1 l0_1.length c0_1] 49 (0,0)) (by (with_reducible repeat (first|apply blk_drewN|apply blk_drew|apply blk_alloc));exact BK189.out)) : gb214 ≠ gb189));clear HO212;clear BK189;clear HB;have HO212:=n0_;have BK189:=n1_;have HB:=n2_;have BK214:=n3_;have GW214:=n4_;have GE214:=n5_;have NB189_214:=n6_;have NB214_189:=n7_;clear n0_ n1_ n2_ n3_ n4_ n5_ n6_ n7_;clear hb hbox hg;have hnb95:=NB214_189.out;have hnc95:=NB189_214.out;have hcz96_0 : w94.cell? ⟨gb214,0,none⟩ = some (.int .u64 0):=(blk_cell BK214.out 0).trans rfl;have hcz96_1 : w94.cell? ⟨gb214,1,none⟩ = some (.slice none 0 0):=(blk_cell BK214.out 1).trans rfl;have hfz96_0:=blk_frozen BK214.out 0;have hfz96_1:=blk_frozen BK214.out 1;obtain ⟨Ao97,co97,eo97⟩:=Kd.S_slice HO212.out;subst eo97)|((with_reducible refine gate_callee (f:=23) rfl ?_);refine goesL_ (some 50) rfl rfl Tryd.func23 (by kernel_rfl) rfl #[] rfl (by (try simp only [List.map_toArray,List.map_cons,List.map_nil]);first|done|rfl|(simp only [List.length_drop,List.length_take];rfl)|(simp (disch:=first|omega|(simp at *;omega)) only [u64_id,i64_id,u8_id];rfl)) ?_;(with_reducible refine (bosunlaw18_Awake.calls kj14  true _ A83.out).mono ?_);rintro e w98 ⟨rfl,hb⟩;refine ⟨_,rfl,?_⟩;have n0_:=Aside0.mk (Kd.S_below (by (with_reducible repeat (first|apply Kd.S_alloc|apply Kd.S_drewN|apply Kd.S_drew));exact (Kd.S_mono (Kd.S_far (p:=⟨gb214,1,none⟩) (Kd.S_far (p:=⟨gb214,0,none⟩) (Kd.S_types HO212.out BK214.out (by decide)) (fun _ hk=>hk.2) (.int .u64 t209)) (fun _ hk=>hk.2) (.slice Ao97 t210.length co97)) (fun _ h_=>h_.1))) hb);have n1_:=Aside0.mk (blk_below (g:=gb189) (o:=.cells #[.int .u64 a0_0,.slice A0_1 l0_1.length c0_1] 49 (0,0)) (by (with_reducible repeat (first|apply blk_drewN|apply blk_drew|apply blk_alloc));refine blk_far ?_ NB189_214.out _;(with_reducible repeat (first|apply blk_drewN|apply blk_drew|apply blk_alloc));refine blk_far ?_ NB189_214.out _;(with_reducible repeat (first|apply blk_drewN|apply blk_drew|apply blk_alloc));exact BK189.out) hb);have n2_:=Aside0.mk (blk_below (g:=gb214) (o:=.cells #[.int .u64 t209,.slice Ao97 t210.length co97] 49 (0,0)) (by (with_reducible repeat (first|apply blk_drewN|apply blk_drew|apply blk_alloc));refine blk_put (cs:=#[.int .u64 t209,.slice none 0 0]) ?_ 1 _ rfl;(with_reducible repeat (first|apply blk_drewN|apply blk_drew|apply blk_alloc));refine blk_put (cs:=#[.int .u64 0,.slice none 0 0]) ?_ 0 _ rfl;(with_reducible repeat (first|apply blk_drewN|apply blk_drew|apply blk_alloc));exact BK214.out) hb);have n3_:=Aside0.mk (below_step (by repeat (first|(with_reducible first|exact HB.out|apply below_alloc|apply pw_below_drewN|apply below_drew1|refine below_set ?_ GE189.out|refine below_set ?_ GE214.out)|exact HB.out)) hb);clear HO212;clear BK189;clear BK214;clear HB;have HO212:=n0_;have BK189:=n1_;have BK214:=n2_;have HB:=n3_;clear n0_ n1_ n2_ n3_;(try clear hb);(try clear hb2);(try clear hk);(try clear hi);have hcz99_0 : w98.cell? ⟨gb214,0,none⟩ = some (.int .u64 t209):=(blk_cell BK214.out 0).trans rfl;have hcz99_1 : w98.cell? ⟨gb214,1,none⟩ = some (.slice Ao97 t210.length co97):=(blk_cell BK214.out 1).trans rfl;have hfz99_0:=blk_frozen BK214.out 0;have hfz99_1:=blk_frozen BK214.out 1))
         go_ret
         exact ⟨by first|rfl|(simp [errW_none,errW_some] <;> rfl)|(simp [*,errW_none,errW_some] <;> rfl),by repeat (first|(with_reducible first|exact HB.out|apply below_alloc|apply pw_below_drewN|apply below_drew1|refine below_set ?_ GE189.out|refine below_set ?_ GE214.out)|exact HB.out)⟩
       ·replace c84:=Bool.eq_false_iff.mpr c84
        subst c84
        have H1 : (some false) = some r:=by rw [if_neg (show ¬ (false = true) by decide)] at H;exact H
        clear H
        have H:=H1
        clear H1
        obtain rfl:=Option.some.inj H
        go_wp2_with (first|((with_reducible refine gate_callee (f:=31) rfl ?_);refine goesL_ (some 45) rfl rfl Tryd.func31 (by kernel_rfl) rfl #[.string a1] rfl (by (try simp only [List.map_toArray,List.map_cons,List.map_nil]);first|done|rfl|(simp only [List.length_drop,List.length_take];rfl)|(simp (disch:=first|omega|(simp at *;omega)) only [u64_id,i64_id,u8_id];rfl)) ?_;(with_reducible refine (cktwo_Decode.calls kj14 a1 t209 t210 t213 _ A56.out).mono ?_);rintro e w100 ⟨v211,rfl,ho0,hb⟩;refine ⟨_,rfl,?_⟩;have n0_:=Aside0.mk (Kd.S_lower ho0 (below_size (by repeat (first|(with_reducible first|exact HB.out|apply below_alloc|apply pw_below_drewN|apply below_drew1|refine below_set ?_ GE189.out)|exact HB.out))));have n1_:=Aside0.mk (blk_below (g:=gb189) (o:=.cells #[.int .u64 a0_0,.slice A0_1 l0_1.length c0_1] 49 (0,0)) (by (with_reducible repeat (first|apply blk_drewN|apply blk_drew|apply blk_alloc));exact BK189.out) hb);have n2_:=Aside0.mk (below_step (by repeat (first|(with_reducible first|exact HB.out|apply below_alloc|apply pw_below_drewN|apply below_drew1|refine below_set ?_ GE189.out)|exact HB.out)) hb);clear BK189;clear HB;have HO212:=n0_;have BK189:=n1_;have HB:=n2_;clear n0_ n1_ n2_;(try clear hb);(try clear hb2);(try clear hk);(try clear hi);(try clear ho0))|((with_reducible refine gate_dst (N:=9) rfl ?_);refine box_event ?hg (N:=9) ?hd (cs:=#[.int .u64 0,.slice none 0 0]) (t:=49) ?hr ?_;(case hd=>rfl);(case hg=>rfl);(case hr=>first|(go_simp;done)|(go_simp;rfl));intro gb214 hg w101 hbox hb;have n0_:=Aside0.mk (Kd.S_below (by (with_reducible repeat (first|apply Kd.S_alloc|apply Kd.S_drewN|apply Kd.S_drew));exact HO212.out) hb);have n1_:=Aside0.mk (blk_below (g:=gb189) (o:=.cells #[.int .u64 a0_0,.slice A0_1 l0_1.length c0_1] 49 (0,0)) (by (with_reducible repeat (first|apply blk_drewN|apply blk_drew|apply blk_alloc));exact BK189.out) hb);have n2_:=Aside0.mk (below_step (by repeat (first|(with_reducible first|exact HB.out|apply below_alloc|apply pw_below_drewN|apply below_drew1|refine below_set ?_ GE189.out)|exact HB.out)) hb);have n3_:=Aside0.mk (hbox);have n4_:=Aside0.mk ((by rw [hg];exact (below_size (by repeat (first|(with_reducible first|exact HB.out|apply below_alloc|apply pw_below_drewN|apply below_drew1|refine below_set ?_ GE189.out)|exact HB.out))) : w.heap.size ≤ gb214));have n5_:=Aside0.mk ((by rw [hg];exact (below_size (by repeat (first|(with_reducible first|exact HB.out|apply below_alloc|apply pw_below_drewN|apply below_drew1|refine below_set ?_ GE189.out)|exact HB.out))) : w.heap.size ≤ gb214));have n6_:=Aside0.mk ((by rw [hg];exact Nat.ne_of_lt (blk_lt (g:=gb189) (o:=.cells #[.int .u64 a0_0,.slice A0_1 l0_1.length c0_1] 49 (0,0)) (by (with_reducible repeat (first|apply blk_drewN|apply blk_drew|apply blk_alloc));exact BK189.out)) : gb189 ≠ gb214));have n7_:=Aside0.mk ((by rw [hg];exact Nat.ne_of_gt (blk_lt (g:=gb189) (o:=.cells #[.int .u64 a0_0,.slice A0_1 l0_1.length c0_1] 49 (0,0)) (by (with_reducible repeat (first|apply blk_drewN|apply blk_drew|apply blk_alloc));exact BK189.out)) : gb214 ≠ gb189));clear HO212;clear BK189;clear HB;have HO212:=n0_;have BK189:=n1_;have HB:=n2_;have BK214:=n3_;have GW214:=n4_;have GE214:=n5_;have NB189_214:=n6_;have NB214_189:=n7_;clear n0_ n1_ n2_ n3_ n4_ n5_ n6_ n7_;clear hb hbox hg;have hnb102:=NB214_189.out;have hnc102:=NB189_214.out;have hcz103_0 : w101.cell? ⟨gb214,0,none⟩ = some (.int .u64 0):=(blk_cell BK214.out 0).trans rfl;have hcz103_1 : w101.cell? ⟨gb214,1,none⟩ = some (.slice none 0 0):=(blk_cell BK214.out 1).trans rfl;have hfz103_0:=blk_frozen BK214.out 0;have hfz103_1:=blk_frozen BK214.out 1;obtain ⟨Ao104,co104,eo104⟩:=Kd.S_slice HO212.out;subst eo104)|((with_reducible refine gate_callee (f:=23) rfl ?_);refine goesL_ (some 50) rfl rfl Tryd.func23 (by kernel_rfl) rfl #[] rfl (by (try simp only [List.map_toArray,List.map_cons,List.map_nil]);first|done|rfl|(simp only [List.length_drop,List.length_take];rfl)|(simp (disch:=first|omega|(simp at *;omega)) only [u64_id,i64_id,u8_id];rfl)) ?_;(with_reducible refine (bosunlaw18_Awake.calls kj14  false _ A83.out).mono ?_);rintro e w105 ⟨rfl,hb⟩;refine ⟨_,rfl,?_⟩;have n0_:=Aside0.mk (Kd.S_below (by (with_reducible repeat (first|apply Kd.S_alloc|apply Kd.S_drewN|apply Kd.S_drew));exact (Kd.S_mono (Kd.S_far (p:=⟨gb214,1,none⟩) (Kd.S_far (p:=⟨gb214,0,none⟩) (Kd.S_types HO212.out BK214.out (by decide)) (fun _ hk=>hk.2) (.int .u64 t209)) (fun _ hk=>hk.2) (.slice Ao104 t210.length co104)) (fun _ h_=>h_.1))) hb);have n1_:=Aside0.mk (blk_below (g:=gb189) (o:=.cells #[.int .u64 a0_0,.slice A0_1 l0_1.length c0_1] 49 (0,0)) (by (with_reducible repeat (first|apply blk_drewN|apply blk_drew|apply blk_alloc));refine blk_far ?_ NB189_214.out _;(with_reducible repeat (first|apply blk_drewN|apply blk_drew|apply blk_alloc));refine blk_far ?_ NB189_214.out _;(with_reducible repeat (first|apply blk_drewN|apply blk_drew|apply blk_alloc));exact BK189.out) hb);have n2_:=Aside0.mk (blk_below (g:=gb214) (o:=.cells #[.int .u64 t209,.slice Ao104 t210.length co104] 49 (0,0)) (by (with_reducible repeat (first|apply blk_drewN|apply blk_drew|apply blk_alloc));refine blk_put (cs:=#[.int .u64 t209,.slice none 0 0]) ?_ 1 _ rfl;(with_reducible repeat (first|apply blk_drewN|apply blk_drew|apply blk_alloc));refine blk_put (cs:=#[.int .u64 0,.slice none 0 0]) ?_ 0 _ rfl;(with_reducible repeat (first|apply blk_drewN|apply blk_drew|apply blk_alloc));exact BK214.out) hb);have n3_:=Aside0.mk (below_step (by repeat (first|(with_reducible first|exact HB.out|apply below_alloc|apply pw_below_drewN|apply below_drew1|refine below_set ?_ GE189.out|refine below_set ?_ GE214.out)|exact HB.out)) hb);clear HO212;clear BK189;clear BK214;clear HB;have HO212:=n0_;have BK189:=n1_;have BK214:=n2_;have HB:=n3_;clear n0_ n1_ n2_ n3_;(try clear hb);(try clear hb2);(try clear hk);(try clear hi)))
        go_ret
        exact ⟨by first|rfl|(simp [errW_none,errW_some] <;> rfl)|(simp [*,errW_none,errW_some] <;> rfl),by repeat (first|(with_reducible first|exact HB.out|apply below_alloc|apply pw_below_drewN|apply below_drew1|refine below_set ?_ GE189.out|refine below_set ?_ GE214.out)|exact HB.out)⟩

end Go.Proofs.YtpmbdcljphpcnaaDoor.GC2
