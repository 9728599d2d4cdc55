/- Written by this session's own program (wip/gen.py) out of the translation: plain Lean functions of the Go functions, and proofs that the calls come to their answers. No conditions beside those in the statements. -/
import Derived.Test.YtpmbdcljphpcnaaDoorGCkx0
import Derived.Test.YtpmbdcljphpcnaaDoorGCkx2
import Derived.Test.YtpmbdcljphpcnaaDoorGCkx9
import Derived.Test.YtpmbdcljphpcnaaDoorGCkx10
import Derived.Test.YtpmbdcljphpcnaaDoorGCkx12
import Derived.Test.YtpmbdcljphpcnaaDoorGCkEncode
namespace Go.Proofs.YtpmbdcljphpcnaaDoor.GCk
open Go.RowKit Go.Proofs.YtpmbdcljphpcnaaDoorW.PrintWords Go.Proofs.YtpmbdcljphpcnaaDoorW.PrintLast Go.Proofs.YtpmbdcljphpcnaaDoorW.PrintMore
attribute [local go_sem] max2_int min2_int max_two min_two max_three min_three max_four min_four   -- for this text's walks alone
set_option linter.unusedVariables false
set_option linter.unusedSimpArgs false

/-! ### bosunlaw17_CkoneBack: function 5 -/
mutual
def bosunlaw17_CkoneBack.j0 : Nat → ByteArray → Bool → Int → List (S66) → Option (Bool)
 | 0,_,_,_,_=>none
 | k + 1,x1,x19,x203000,x203001=>if x19 = true then ((bosunlaw17_Awake.f k).bind fun t204=>(some t204)) else ((ckone_Encode.f k x203000 x203001).bind fun bt205=>(if bt205.2 = 0 then ((ckone_Decode.f k bt205.1).bind fun bt207=>(if bt207.2.2 = 0 then ((bosunlaw17_Of.f k bt207.1 bt207.2.1).bind fun bt213=>((bosunlaw17_Of.f k x203000 x203001).bind fun bt217=>((bosunref17_Same.f k bt213.1 bt213.2 bt217.1 bt217.2).bind fun t221=>(if t221 = true then (bosunlaw17_CkoneBack.j1 k x1) else (some false))))) else (some false))) else (bosunlaw17_CkoneBack.j1 k x1)))
def bosunlaw17_CkoneBack.j1 : Nat → ByteArray → Option (Bool)
 | 0,_=>none
 | k + 1,x1=>(ckone_Decode.f k x1).bind fun bt222=>(if bt222.2.2 = 0 then ((ckone_Encode.f k bt222.1 bt222.2.1).bind fun bt228=>((bosunlaw17_Awake.f k).bind fun t230=>(if t230 = true then (if bt228.2 = 0 then (some (bt228.1.toList == x1.toList)) else (some false)) else (some false)))) else ((bosunlaw17_Awake.f k).bind fun t231=>(if t231 = true then (if bt222.1 = 0 then (some ((bt222.2.1.length : Int) == 0)) else (some false)) else (some false))))
end
def bosunlaw17_CkoneBack.f (k : Nat) (a0_0 : Int) (l0_1 : List (S66)) (a1 : ByteArray) : Option (Bool):=(bosunlaw17_Small.f k a0_0 l0_1).bind fun t203=>(if t203 = true then (bosunlaw17_CkoneBack.j0 k a1 (decide ((a1.size : Int) > 20000)) a0_0 l0_1) else (bosunlaw17_CkoneBack.j0 k a1 true a0_0 l0_1))
theorem bosunlaw17_CkoneBack.mono_l : ∀ k,(∀ y0 y1 y2 y3,LeO (bosunlaw17_CkoneBack.j0 k y0 y1 y2 y3) (bosunlaw17_CkoneBack.j0 (k + 1) y0 y1 y2 y3)) ∧ (∀ y0,LeO (bosunlaw17_CkoneBack.j1 k y0) (bosunlaw17_CkoneBack.j1 (k + 1) y0))
 | 0=>⟨fun _ _ _ _ r h=>by simp [bosunlaw17_CkoneBack.j0] at h,fun _ r h=>by simp [bosunlaw17_CkoneBack.j1] at h⟩
 | k + 1=>by
  obtain ⟨ih0,ih1⟩:=bosunlaw17_CkoneBack.mono_l k
  refine ⟨?_,?_⟩
  ·intro y0 y1 y2 y3
   unfold bosunlaw17_CkoneBack.j0
   repeat' first
   | (with_reducible exact ih0 _ _ _ _)
   | (with_reducible exact ih1 _)
   | (with_reducible exact bosunlaw17_Awake.mono _)
   | (with_reducible exact bosunlaw17_Of.mono _ _ _)
   | (with_reducible exact bosunlaw17_Small.mono _ _ _)
   | (with_reducible exact bosunref17_Same.mono _ _ _ _ _)
   | (with_reducible exact ckone_Decode.mono _ _)
   | (with_reducible exact ckone_Encode.mono _ _ _)
   | (with_reducible exact LeO.refl _)
   | (with_reducible exact LeO.none _)
   | (with_reducible refine LeO.ite ?_ ?_)
   | (with_reducible refine LeO.bind ?_ (fun _=>?_))
   | exact ih0 _ _ _ _
   | exact ih1 _
   | exact bosunlaw17_Awake.mono _
   | exact bosunlaw17_Of.mono _ _ _
   | exact bosunlaw17_Small.mono _ _ _
   | exact bosunref17_Same.mono _ _ _ _ _
   | exact ckone_Decode.mono _ _
   | exact ckone_Encode.mono _ _ _
   | exact LeO.none _
   | refine LeO.ite ?_ ?_
   | refine LeO.bind ?_ (fun _=>?_)
  ·intro y0
   unfold bosunlaw17_CkoneBack.j1
   repeat' first
   | (with_reducible exact ih0 _ _ _ _)
   | (with_reducible exact ih1 _)
   | (with_reducible exact bosunlaw17_Awake.mono _)
   | (with_reducible exact bosunlaw17_Of.mono _ _ _)
   | (with_reducible exact bosunlaw17_Small.mono _ _ _)
   | (with_reducible exact bosunref17_Same.mono _ _ _ _ _)
   | (with_reducible exact ckone_Decode.mono _ _)
   | (with_reducible exact ckone_Encode.mono _ _ _)
   | (with_reducible exact LeO.refl _)
   | (with_reducible exact LeO.none _)
   | (with_reducible refine LeO.ite ?_ ?_)
   | (with_reducible refine LeO.bind ?_ (fun _=>?_))
   | exact ih0 _ _ _ _
   | exact ih1 _
   | exact bosunlaw17_Awake.mono _
   | exact bosunlaw17_Of.mono _ _ _
   | exact bosunlaw17_Small.mono _ _ _
   | exact bosunref17_Same.mono _ _ _ _ _
   | exact ckone_Decode.mono _ _
   | exact ckone_Encode.mono _ _ _
   | exact LeO.none _
   | refine LeO.ite ?_ ?_
   | refine LeO.bind ?_ (fun _=>?_)
theorem bosunlaw17_CkoneBack.mono : ∀ a0 a1 a2 k,LeO (bosunlaw17_CkoneBack.f k a0 a1 a2) (bosunlaw17_CkoneBack.f (k + 1) a0 a1 a2):=by
 intro a0 a1 a2 k
 obtain ⟨ih0,ih1⟩:=bosunlaw17_CkoneBack.mono_l k
 unfold bosunlaw17_CkoneBack.f
 repeat' first
   | (with_reducible exact ih0 _ _ _ _)
   | (with_reducible exact ih1 _)
   | (with_reducible exact bosunlaw17_Awake.mono _)
   | (with_reducible exact bosunlaw17_Of.mono _ _ _)
   | (with_reducible exact bosunlaw17_Small.mono _ _ _)
   | (with_reducible exact bosunref17_Same.mono _ _ _ _ _)
   | (with_reducible exact ckone_Decode.mono _ _)
   | (with_reducible exact ckone_Encode.mono _ _ _)
   | (with_reducible exact LeO.refl _)
   | (with_reducible exact LeO.none _)
   | (with_reducible refine LeO.ite ?_ ?_)
   | (with_reducible refine LeO.bind ?_ (fun _=>?_))
   | exact ih0 _ _ _ _
   | exact ih1 _
   | exact bosunlaw17_Awake.mono _
   | exact bosunlaw17_Of.mono _ _ _
   | exact bosunlaw17_Small.mono _ _ _
   | exact bosunref17_Same.mono _ _ _ _ _
   | exact ckone_Decode.mono _ _
   | exact ckone_Encode.mono _ _ _
   | exact LeO.none _
   | refine LeO.ite ?_ ?_
   | refine LeO.bind ?_ (fun _=>?_)
def bosunlaw17_CkoneBack.T6 : Bool × List (List Nat × List Nat):=(true,[([],[]),([0],[0]),([1],[1]),([2],[2]),([3,2,2],[2,3]),([2],[2]),([5,4,2],[2,5]),([4,6,6,2],[2,4,6]),([7,2],[2,7]),([2,8],[2,8])])
def bosunlaw17_CkoneBack.B6 : List Nat:=[0,1,3,7,15,7,63,127,255,511]
theorem bosunlaw17_CkoneBack.tab6 : rtab .any (opsOf Tryd.f5 6) = bosunlaw17_CkoneBack.T6:=by kernel_rfl
theorem bosunlaw17_CkoneBack.bits6 : waitsOk bosunlaw17_CkoneBack.T6.2 bosunlaw17_CkoneBack.B6 = true:=by kernel_rfl
set_option maxHeartbeats 8000000 in
set_option maxRecDepth 100000 in
theorem bosunlaw17_CkoneBack.calls (k : Nat) (a0_0 : Int) (A0_1 : Option Addr) (c0_1 : Nat) (l0_1 : List (S66)) (a1 : ByteArray) (r : Bool) (w : World) (hr0_1 : Kd.C k66 w A0_1 l0_1.length l0_1) (hc0_1 : l0_1.length ≤ c0_1) (h : bosunlaw17_CkoneBack.f k a0_0 l0_1 a1 = some r) :
  Calls Tryd.prog 5 #[.agg #[.int .u32 a0_0,.slice A0_1 l0_1.length c0_1],.string a1] w fun e w'=>e = .returned (.bool r) ∧ Below w.heap.size w w':=by
 have hu25:=Tryd.underlying25
 have HR0_1:=Aside0.mk hr0_1
 have HC0_1:=Aside0.mk hc0_1
 clear hr0_1 hc0_1
 have HB:=Aside0.mk (Below.refl w.heap.size w)
 have H : ((bosunlaw17_Small.f k a0_0 l0_1).bind fun t203=>(if t203 = true then (bosunlaw17_CkoneBack.j0 k a1 (decide ((a1.size : Int) > 20000)) a0_0 l0_1) else (bosunlaw17_CkoneBack.j0 k a1 true a0_0 l0_1))) = some r:=h
 clear h
 have HC3:=Aside0.mk H
 clear H
 go_enter Tryd.func5,Tryd.ntmps5
 go_upto_region 1 with (first|((with_reducible refine gate_dst (N:=2) rfl ?_);refine box_event ?hg (N:=2) ?hd (cs:=#[.int .u32 a0_0,.slice A0_1 l0_1.length c0_1]) (t:=25) ?hr ?_;(case hd=>rfl);(case hg=>rfl);(case hr=>first|(go_simp;done)|(go_simp;rfl));intro gb202 hg w4 hbox hb;have n0_:=Aside0.mk (below_step (by repeat (first|(with_reducible first|exact HB.out|apply below_alloc|apply pw_below_drewN|apply below_drew1)|exact HB.out)) hb);have n1_:=Aside0.mk (hbox);have n2_:=Aside0.mk ((by rw [hg];exact (below_size (by repeat (first|(with_reducible first|exact HB.out|apply below_alloc|apply pw_below_drewN|apply below_drew1)|exact HB.out))) : w.heap.size ≤ gb202));have n3_:=Aside0.mk ((by rw [hg];exact (below_size (by repeat (first|(with_reducible first|exact HB.out|apply below_alloc|apply pw_below_drewN|apply below_drew1)|exact HB.out))) : w.heap.size ≤ gb202));clear HB;have HB:=n0_;have BK202:=n1_;have GW202:=n2_;have GE202:=n3_;clear n0_ n1_ n2_ n3_;clear hb hbox hg))
 (try simp only [Act.put,List.setIfInBounds_toArray,List.set_cons_zero,List.set_cons_succ])
 go_cut [19] (fun v19 wc=>∃ (kq : Nat) (x19_2 : Bool),v19 = .bool x19_2 ∧ Aside0 (bosunlaw17_CkoneBack.j0 kq a1 x19_2 a0_0 l0_1 = some r) ∧ Aside0 (kq ≤ k) ∧ Aside0 (wc.heap[gb202]? = some (.cells #[.int .u32 a0_0,(.slice A0_1 l0_1.length c0_1)] 25 (0,0))) ∧ Aside0 (Below w.heap.size w wc))
 case first =>
  have H:=HC3.out
  clear HC3
  replace H:=Option.bind_eq_some_iff.mp H
  obtain ⟨t203,A50,H⟩:=H
  replace H : (if t203 = true then (bosunlaw17_CkoneBack.j0 k a1 (decide ((a1.size : Int) > 20000)) a0_0 l0_1) else (bosunlaw17_CkoneBack.j0 k a1 true a0_0 l0_1)) = some r:=H
  have A5:=Aside0.mk A50
  clear A50
  by_cases c6 : t203 = true
  ·subst c6
   have H1 : (bosunlaw17_CkoneBack.j0 k a1 (decide ((a1.size : Int) > 20000)) a0_0 l0_1) = some r:=by rw [if_pos rfl] at H;exact H
   clear H
   have H:=H1
   clear H1
   have H':=Aside0.mk H
   clear H
   have hcz7_0 : w4.cell? ⟨gb202,0,none⟩ = some (.int .u32 a0_0):=(blk_cell BK202.out 0).trans rfl
   have hcz7_1 : w4.cell? ⟨gb202,1,none⟩ = some (.slice A0_1 l0_1.length c0_1):=(blk_cell BK202.out 1).trans rfl
   have hfz7_0:=blk_frozen BK202.out 0
   have hfz7_1:=blk_frozen BK202.out 1
   go_wp2_with (first|((with_reducible refine gate_callee (f:=9) rfl ?_);refine goesL_ (some 13) rfl rfl Tryd.func9 (by kernel_rfl) rfl #[.agg #[.int .u32 a0_0,.slice A0_1 l0_1.length c0_1]] rfl (by (try simp only [List.map_toArray,List.map_cons,List.map_nil]);first|done|rfl|(simp only [List.length_drop,List.length_take];rfl)|(simp (disch:=first|omega|(simp at *;omega)) only [u64_id,i64_id,u8_id];rfl)) ?_;(with_reducible refine (bosunlaw17_Small.calls k a0_0 _ _ l0_1 true _ ?side1 ?side2 A5.out).mono ?_);(case side1=>repeat (first|exact (Kd.C_below HR0_1.out HB.out)|(with_reducible refine Kd.C_alloc ?_ _)|(with_reducible refine Kd.C_drewN ?_ _)|(with_reducible refine Kd.C_drew ?_)));(case side2=>exact HC0_1.out);rintro e w8 ⟨rfl,hb⟩;refine ⟨_,rfl,?_⟩;have n0_:=Aside0.mk (blk_below (g:=gb202) (o:=.cells #[.int .u32 a0_0,.slice A0_1 l0_1.length c0_1] 25 (0,0)) (by (with_reducible repeat (first|apply blk_drewN|apply blk_drew|apply blk_alloc));exact BK202.out) hb);have n1_:=Aside0.mk (below_step (by repeat (first|(with_reducible first|exact HB.out|apply below_alloc|apply pw_below_drewN|apply below_drew1|refine below_set ?_ GE202.out)|exact HB.out)) hb);clear BK202;clear HB;have BK202:=n0_;have HB:=n1_;clear n0_ n1_;(try clear hb);(try clear hb2);(try clear hk);(try clear hi)))
   go_meet
   case rel=>exact ⟨_,(decide ((a1.size : Int) > 20000)),(by first|rfl|(simp;done)|(simp [*];done)),H',⟨by first|omega|exact Nat.le_refl _⟩,⟨by (with_reducible repeat (first|apply blk_drewN|apply blk_drew|apply blk_alloc));exact BK202.out⟩,⟨by repeat (first|(with_reducible first|exact HB.out|apply below_alloc|apply pw_below_drewN|apply below_drew1|refine below_set ?_ GE202.out)|exact HB.out)⟩⟩
  ·replace c6:=Bool.eq_false_iff.mpr c6
   subst c6
   have H1 : (bosunlaw17_CkoneBack.j0 k a1 true a0_0 l0_1) = some r:=by rw [if_neg (show ¬ (false = true) by decide)] at H;exact H
   clear H
   have H:=H1
   clear H1
   have H':=Aside0.mk H
   clear H
   have hcz9_0 : w4.cell? ⟨gb202,0,none⟩ = some (.int .u32 a0_0):=(blk_cell BK202.out 0).trans rfl
   have hcz9_1 : w4.cell? ⟨gb202,1,none⟩ = some (.slice A0_1 l0_1.length c0_1):=(blk_cell BK202.out 1).trans rfl
   have hfz9_0:=blk_frozen BK202.out 0
   have hfz9_1:=blk_frozen BK202.out 1
   go_wp2_with (first|((with_reducible refine gate_callee (f:=9) rfl ?_);refine goesL_ (some 13) rfl rfl Tryd.func9 (by kernel_rfl) rfl #[.agg #[.int .u32 a0_0,.slice A0_1 l0_1.length c0_1]] rfl (by (try simp only [List.map_toArray,List.map_cons,List.map_nil]);first|done|rfl|(simp only [List.length_drop,List.length_take];rfl)|(simp (disch:=first|omega|(simp at *;omega)) only [u64_id,i64_id,u8_id];rfl)) ?_;(with_reducible refine (bosunlaw17_Small.calls k a0_0 _ _ l0_1 false _ ?side1 ?side2 A5.out).mono ?_);(case side1=>repeat (first|exact (Kd.C_below HR0_1.out HB.out)|(with_reducible refine Kd.C_alloc ?_ _)|(with_reducible refine Kd.C_drewN ?_ _)|(with_reducible refine Kd.C_drew ?_)));(case side2=>exact HC0_1.out);rintro e w10 ⟨rfl,hb⟩;refine ⟨_,rfl,?_⟩;have n0_:=Aside0.mk (blk_below (g:=gb202) (o:=.cells #[.int .u32 a0_0,.slice A0_1 l0_1.length c0_1] 25 (0,0)) (by (with_reducible repeat (first|apply blk_drewN|apply blk_drew|apply blk_alloc));exact BK202.out) hb);have n1_:=Aside0.mk (below_step (by repeat (first|(with_reducible first|exact HB.out|apply below_alloc|apply pw_below_drewN|apply below_drew1|refine below_set ?_ GE202.out)|exact HB.out)) hb);clear BK202;clear HB;have BK202:=n0_;have HB:=n1_;clear n0_ n1_;(try clear hb);(try clear hb2);(try clear hk);(try clear hi)))
   go_meet
   case rel=>exact ⟨_,(true),(by first|rfl|(simp;done)|(simp [*];done)),H',⟨by first|omega|exact Nat.le_refl _⟩,⟨by (with_reducible repeat (first|apply blk_drewN|apply blk_drew|apply blk_alloc));exact BK202.out⟩,⟨by repeat (first|(with_reducible first|exact HB.out|apply below_alloc|apply pw_below_drewN|apply below_drew1|refine below_set ?_ GE202.out)|exact HB.out)⟩⟩
 case rest =>
  clear HC3
  try clear p2
  try clear c5
  try clear c6
  try clear c9
  try clear hcz7_0
  try clear hcz7_1
  try clear hcz9_0
  try clear hcz9_1
  try clear hfz7_0
  try clear hfz7_1
  try clear hfz9_0
  try clear hfz9_1
  obtain ⟨kq,x19_2,rfl,HA,HJ2,BK202,HB⟩:=hcut
  cases kq with
  | zero=>exact absurd HA.out (by simp [bosunlaw17_CkoneBack.j0])
  | succ kj2 =>
   have H:=HA.out
   clear HA
   simp only [bosunlaw17_CkoneBack.j0] at H
   by_cases c11 : x19_2 = true
   ·subst c11
    have H1 : ((bosunlaw17_Awake.f kj2).bind fun t204=>(some t204)) = some r:=by rw [if_pos rfl] at H;exact H
    clear H
    have H:=H1
    clear H1
    replace H:=Option.bind_eq_some_iff.mp H
    obtain ⟨t204,A120,H⟩:=H
    replace H : (some t204) = some r:=H
    have A12:=Aside0.mk A120
    clear A120
    obtain rfl:=Option.some.inj H
    go_wp2_with (first|((with_reducible refine gate_callee (f:=10) rfl ?_);refine goesL_ (some 20) rfl rfl Tryd.func10 (by kernel_rfl) rfl #[] rfl (by (try simp only [List.map_toArray,List.map_cons,List.map_nil]);first|done|rfl|(simp only [List.length_drop,List.length_take];rfl)|(simp (disch:=first|omega|(simp at *;omega)) only [u64_id,i64_id,u8_id];rfl)) ?_;(with_reducible refine (bosunlaw17_Awake.calls kj2  t204 _ A12.out).mono ?_);rintro e w13 ⟨rfl,hb⟩;refine ⟨_,rfl,?_⟩;have n0_:=Aside0.mk (blk_below (g:=gb202) (o:=.cells #[.int .u32 a0_0,.slice A0_1 l0_1.length c0_1] 25 (0,0)) (by (with_reducible repeat (first|apply blk_drewN|apply blk_drew|apply blk_alloc));exact BK202.out) hb);have n1_:=Aside0.mk (below_step (by repeat (first|(with_reducible first|exact HB.out|apply below_alloc|apply pw_below_drewN|apply below_drew1|refine below_set ?_ GE202.out)|exact HB.out)) hb);clear BK202;clear HB;have BK202:=n0_;have HB:=n1_;clear n0_ n1_;(try clear hb);(try clear hb2);(try clear hk);(try clear hi)))
    go_ret
    exact ⟨by first|rfl|(simp [errW_none,errW_some] <;> rfl)|(simp [*,errW_none,errW_some] <;> rfl),by repeat (first|(with_reducible first|exact HB.out|apply below_alloc|apply pw_below_drewN|apply below_drew1|refine below_set ?_ GE202.out)|exact HB.out)⟩
   ·replace c11:=Bool.eq_false_iff.mpr c11
    subst c11
    have H1 : ((ckone_Encode.f kj2 a0_0 l0_1).bind fun bt205=>(if bt205.2 = 0 then ((ckone_Decode.f kj2 bt205.1).bind fun bt207=>(if bt207.2.2 = 0 then ((bosunlaw17_Of.f kj2 bt207.1 bt207.2.1).bind fun bt213=>((bosunlaw17_Of.f kj2 a0_0 l0_1).bind fun bt217=>((bosunref17_Same.f kj2 bt213.1 bt213.2 bt217.1 bt217.2).bind fun t221=>(if t221 = true then (bosunlaw17_CkoneBack.j1 kj2 a1) else (some false))))) else (some false))) else (bosunlaw17_CkoneBack.j1 kj2 a1))) = some r:=by rw [if_neg (show ¬ (false = true) by decide)] at H;exact H
    clear H
    have H:=H1
    clear H1
    replace H:=Option.bind_eq_some_iff.mp H
    obtain ⟨⟨t205,t206⟩,A140,H⟩:=H
    replace H : (if t206 = 0 then ((ckone_Decode.f kj2 t205).bind fun bt207=>(if bt207.2.2 = 0 then ((bosunlaw17_Of.f kj2 bt207.1 bt207.2.1).bind fun bt213=>((bosunlaw17_Of.f kj2 a0_0 l0_1).bind fun bt217=>((bosunref17_Same.f kj2 bt213.1 bt213.2 bt217.1 bt217.2).bind fun t221=>(if t221 = true then (bosunlaw17_CkoneBack.j1 kj2 a1) else (some false))))) else (some false))) else (bosunlaw17_CkoneBack.j1 kj2 a1)) = some r:=H
    have A14:=Aside0.mk A140
    clear A140
    have HC15:=Aside0.mk H
    clear H
    have hcz16_0 : wc.cell? ⟨gb202,0,none⟩ = some (.int .u32 a0_0):=(blk_cell BK202.out 0).trans rfl
    have hcz16_1 : wc.cell? ⟨gb202,1,none⟩ = some (.slice A0_1 l0_1.length c0_1):=(blk_cell BK202.out 1).trans rfl
    have hfz16_0:=blk_frozen BK202.out 0
    have hfz16_1:=blk_frozen BK202.out 1
    go_upto_if 27 with (first|((with_reducible refine gate_callee (f:=13) rfl ?_);refine goesL_ (some 23) rfl rfl Tryd.func13 (by kernel_rfl) rfl #[.agg #[.int .u32 a0_0,.slice A0_1 l0_1.length c0_1]] rfl (by (try simp only [List.map_toArray,List.map_cons,List.map_nil]);first|done|rfl|(simp only [List.length_drop,List.length_take];rfl)|(simp (disch:=first|omega|(simp at *;omega)) only [u64_id,i64_id,u8_id];rfl)) ?_;(with_reducible refine (ckone_Encode.calls kj2 a0_0 _ _ l0_1 t205 t206 _ ?side1 ?side2 A14.out).mono ?_);(case side1=>repeat (first|exact (Kd.C_below HR0_1.out HB.out)|(with_reducible refine Kd.C_alloc ?_ _)|(with_reducible refine Kd.C_drewN ?_ _)|(with_reducible refine Kd.C_drew ?_)));(case side2=>exact HC0_1.out);rintro e w17 ⟨rfl,hb⟩;refine ⟨_,rfl,?_⟩;have n0_:=Aside0.mk (blk_below (g:=gb202) (o:=.cells #[.int .u32 a0_0,.slice A0_1 l0_1.length c0_1] 25 (0,0)) (by (with_reducible repeat (first|apply blk_drewN|apply blk_drew|apply blk_alloc));exact BK202.out) hb);have n1_:=Aside0.mk (below_step (by repeat (first|(with_reducible first|exact HB.out|apply below_alloc|apply pw_below_drewN|apply below_drew1|refine below_set ?_ GE202.out)|exact HB.out)) hb);clear BK202;clear HB;have BK202:=n0_;have HB:=n1_;clear n0_ n1_;(try clear hb);(try clear hb2);(try clear hk);(try clear hi)))
    (try simp only [Act.put,List.setIfInBounds_toArray,List.set_cons_zero,List.set_cons_succ])
    go_cut [] (fun wc=>∃ (kq : Nat),Aside0 (bosunlaw17_CkoneBack.j1 kq a1 = some r) ∧ Aside0 (kq ≤ kj2) ∧ Aside0 (wc.heap[gb202]? = some (.cells #[.int .u32 a0_0,(.slice A0_1 l0_1.length c0_1)] 25 (0,0))) ∧ Aside0 (Below w.heap.size w wc))
    case first =>
     have H:=HC15.out
     clear HC15
     by_cases c18 : t206 = 0
     ·rw [if_pos c18] at H
      have c18b0 : (t206 == 0) = true:=beq_iff_eq.mpr c18
      have c18b1 : (t206 != 0) = false:=bne_eq_false_iff_eq.mpr c18
      clear c18
      (first|rw [c18b0]|(simp only [i64_w,i32_w];rw [c18b0])|skip)
      replace H:=Option.bind_eq_some_iff.mp H
      obtain ⟨⟨t207,t208,t211⟩,A190,H⟩:=H
      replace H : (if t211 = 0 then ((bosunlaw17_Of.f kj2 t207 t208).bind fun bt213=>((bosunlaw17_Of.f kj2 a0_0 l0_1).bind fun bt217=>((bosunref17_Same.f kj2 bt213.1 bt213.2 bt217.1 bt217.2).bind fun t221=>(if t221 = true then (bosunlaw17_CkoneBack.j1 kj2 a1) else (some false))))) else (some false)) = some r:=H
      have A19:=Aside0.mk A190
      clear A190
      by_cases c20 : t211 = 0
      ·rw [if_pos c20] at H
       have c20b0 : (t211 == 0) = true:=beq_iff_eq.mpr c20
       have c20b1 : (t211 != 0) = false:=bne_eq_false_iff_eq.mpr c20
       clear c20
       replace H:=Option.bind_eq_some_iff.mp H
       obtain ⟨⟨t213,t214⟩,A210,H⟩:=H
       replace H : ((bosunlaw17_Of.f kj2 a0_0 l0_1).bind fun bt217=>((bosunref17_Same.f kj2 t213 t214 bt217.1 bt217.2).bind fun t221=>(if t221 = true then (bosunlaw17_CkoneBack.j1 kj2 a1) else (some false)))) = some r:=H
       have A21:=Aside0.mk A210
       clear A210
       replace H:=Option.bind_eq_some_iff.mp H
       obtain ⟨⟨t217,t218⟩,A220,H⟩:=H
       replace H : ((bosunref17_Same.f kj2 t213 t214 t217 t218).bind fun t221=>(if t221 = true then (bosunlaw17_CkoneBack.j1 kj2 a1) else (some false))) = some r:=H
       have A22:=Aside0.mk A220
       clear A220
       replace H:=Option.bind_eq_some_iff.mp H
       obtain ⟨t221,A230,H⟩:=H
       replace H : (if t221 = true then (bosunlaw17_CkoneBack.j1 kj2 a1) else (some false)) = some r:=H
       have A23:=Aside0.mk A230
       clear A230
       by_cases c24 : t221 = true
       ·subst c24
        have H1 : (bosunlaw17_CkoneBack.j1 kj2 a1) = some r:=by rw [if_pos rfl] at H;exact H
        clear H
        have H:=H1
        clear H1
        have H':=Aside0.mk H
        clear H
        try go_wp2_with (first|((with_reducible refine gate_callee (f:=20) rfl ?_);refine goesL_ (some 30) rfl rfl Tryd.func20 (by kernel_rfl) rfl #[.string t205] rfl (by (try simp only [List.map_toArray,List.map_cons,List.map_nil]);first|done|rfl|(simp only [List.length_drop,List.length_take];rfl)|(simp (disch:=first|omega|(simp at *;omega)) only [u64_id,i64_id,u8_id];rfl)) ?_;(with_reducible refine (ckone_Decode.calls kj2 t205 t207 t208 t211 _ A19.out).mono ?_);rintro e w25 ⟨v209,rfl,ho0,hb⟩;refine ⟨_,rfl,?_⟩;have n0_:=Aside0.mk (Kd.R_lower ho0 (below_size (by repeat (first|(with_reducible first|exact HB.out|apply below_alloc|apply pw_below_drewN|apply below_drew1|refine below_set ?_ GE202.out)|exact HB.out))));have n1_:=Aside0.mk (blk_below (g:=gb202) (o:=.cells #[.int .u32 a0_0,.slice A0_1 l0_1.length c0_1] 25 (0,0)) (by (with_reducible repeat (first|apply blk_drewN|apply blk_drew|apply blk_alloc));exact BK202.out) hb);have n2_:=Aside0.mk (below_step (by repeat (first|(with_reducible first|exact HB.out|apply below_alloc|apply pw_below_drewN|apply below_drew1|refine below_set ?_ GE202.out)|exact HB.out)) hb);clear BK202;clear HB;have HO210:=n0_;have BK202:=n1_;have HB:=n2_;clear n0_ n1_ n2_;(try clear hb);(try clear hb2);(try clear hk);(try clear hi);(try clear ho0))|((with_reducible refine gate_dst (N:=7) rfl ?_);refine box_event ?hg (N:=7) ?hd (cs:=#[.int .u32 0,.slice none 0 0]) (t:=25) ?hr ?_;(case hd=>rfl);(case hg=>rfl);(case hr=>first|(go_simp;done)|(go_simp;rfl));intro gb212 hg w26 hbox hb;have n0_:=Aside0.mk (Kd.R_below (by (with_reducible repeat (first|apply Kd.R_alloc|apply Kd.R_drewN|apply Kd.R_drew));exact HO210.out) hb);have n1_:=Aside0.mk (blk_below (g:=gb202) (o:=.cells #[.int .u32 a0_0,.slice A0_1 l0_1.length c0_1] 25 (0,0)) (by (with_reducible repeat (first|apply blk_drewN|apply blk_drew|apply blk_alloc));exact BK202.out) hb);have n2_:=Aside0.mk (below_step (by repeat (first|(with_reducible first|exact HB.out|apply below_alloc|apply pw_below_drewN|apply below_drew1|refine below_set ?_ GE202.out)|exact HB.out)) hb);have n3_:=Aside0.mk (hbox);have n4_:=Aside0.mk ((by rw [hg];exact (below_size (by repeat (first|(with_reducible first|exact HB.out|apply below_alloc|apply pw_below_drewN|apply below_drew1|refine below_set ?_ GE202.out)|exact HB.out))) : w.heap.size ≤ gb212));have n5_:=Aside0.mk ((by rw [hg];exact (below_size (by repeat (first|(with_reducible first|exact HB.out|apply below_alloc|apply pw_below_drewN|apply below_drew1|refine below_set ?_ GE202.out)|exact HB.out))) : w.heap.size ≤ gb212));have n6_:=Aside0.mk ((by rw [hg];exact Nat.ne_of_lt (blk_lt (g:=gb202) (o:=.cells #[.int .u32 a0_0,.slice A0_1 l0_1.length c0_1] 25 (0,0)) (by (with_reducible repeat (first|apply blk_drewN|apply blk_drew|apply blk_alloc));exact BK202.out)) : gb202 ≠ gb212));have n7_:=Aside0.mk ((by rw [hg];exact Nat.ne_of_gt (blk_lt (g:=gb202) (o:=.cells #[.int .u32 a0_0,.slice A0_1 l0_1.length c0_1] 25 (0,0)) (by (with_reducible repeat (first|apply blk_drewN|apply blk_drew|apply blk_alloc));exact BK202.out)) : gb212 ≠ gb202));clear HO210;clear BK202;clear HB;have HO210:=n0_;have BK202:=n1_;have HB:=n2_;have BK212:=n3_;have GW212:=n4_;have GE212:=n5_;have NB202_212:=n6_;have NB212_202:=n7_;clear n0_ n1_ n2_ n3_ n4_ n5_ n6_ n7_;clear hb hbox hg;have hnb27:=NB212_202.out;have hnc27:=NB202_212.out;have hcz28_0 : w26.cell? ⟨gb212,0,none⟩ = some (.int .u32 0):=(blk_cell BK212.out 0).trans rfl;have hcz28_1 : w26.cell? ⟨gb212,1,none⟩ = some (.slice none 0 0):=(blk_cell BK212.out 1).trans rfl;have hfz28_0:=blk_frozen BK212.out 0;have hfz28_1:=blk_frozen BK212.out 1;obtain ⟨Ao29,co29,eo29⟩:=Kd.R_slice HO210.out;subst eo29))
        have n0_ : Aside0 (Kd.R k66 66 ((w26.setCell ⟨gb212,0,none⟩ (.int .u32 t207)).setCell ⟨gb212,1,none⟩ (.slice Ao29 t208.length co29)) w.heap.size (fun _=>True) (.slice Ao29 t208.length co29) t208):=⟨by (with_reducible repeat (first|apply Kd.R_alloc|apply Kd.R_drewN|apply Kd.R_drew));exact Kd.R_mono (Kd.R_far (p:=⟨gb212,1,none⟩) (Kd.R_far (p:=⟨gb212,0,none⟩) (Kd.R_types HO210.out BK212.out (by decide)) (fun _ hk=>hk.2) (.int .u32 t207)) (fun _ hk=>hk.2) (.slice Ao29 t208.length co29)) (fun _ hk=>trivial)⟩
        have n1_ : Aside0 (((w26.setCell ⟨gb212,0,none⟩ (.int .u32 t207)).setCell ⟨gb212,1,none⟩ (.slice Ao29 t208.length co29)).heap[gb202]? = some (.cells #[.int .u32 a0_0,.slice A0_1 l0_1.length c0_1] 25 (0,0))):=⟨by (with_reducible repeat (first|apply blk_drewN|apply blk_drew|apply blk_alloc));refine blk_far ?_ NB202_212.out _;(with_reducible repeat (first|apply blk_drewN|apply blk_drew|apply blk_alloc));refine blk_far ?_ NB202_212.out _;(with_reducible repeat (first|apply blk_drewN|apply blk_drew|apply blk_alloc));exact BK202.out⟩
        have n2_ : Aside0 (((w26.setCell ⟨gb212,0,none⟩ (.int .u32 t207)).setCell ⟨gb212,1,none⟩ (.slice Ao29 t208.length co29)).heap[gb212]? = some (.cells #[.int .u32 t207,.slice Ao29 t208.length co29] 25 (0,0))):=⟨by (with_reducible repeat (first|apply blk_drewN|apply blk_drew|apply blk_alloc));refine blk_put (cs:=#[.int .u32 t207,.slice none 0 0]) ?_ 1 _ rfl;(with_reducible repeat (first|apply blk_drewN|apply blk_drew|apply blk_alloc));refine blk_put (cs:=#[.int .u32 0,.slice none 0 0]) ?_ 0 _ rfl;(with_reducible repeat (first|apply blk_drewN|apply blk_drew|apply blk_alloc));exact BK212.out⟩
        have n3_ : Aside0 (Below w.heap.size w ((w26.setCell ⟨gb212,0,none⟩ (.int .u32 t207)).setCell ⟨gb212,1,none⟩ (.slice Ao29 t208.length co29))):=⟨by repeat (first|(with_reducible first|exact HB.out|apply below_alloc|apply pw_below_drewN|apply below_drew1|refine below_set ?_ GE202.out|refine below_set ?_ GE212.out)|exact HB.out)⟩
        (try clear HO210)
        (try clear BK202)
        (try clear BK212)
        (try clear HB)
        generalize ((w26.setCell ⟨gb212,0,none⟩ (.int .u32 t207)).setCell ⟨gb212,1,none⟩ (.slice Ao29 t208.length co29)) = w30 at n0_ n1_ n2_ n3_ ⊢
        have HO210:=n0_
        have BK202:=n1_
        have BK212:=n2_
        have HB:=n3_
        clear n0_ n1_ n2_ n3_
        have n0_:=Aside0.mk (Kd.R_drew HO210.out)
        have n1_:=Aside0.mk (blk_drew BK202.out)
        have n2_:=Aside0.mk (blk_drew BK212.out)
        have n3_:=Aside0.mk (below_drew1 HB.out)
        clear HO210
        clear BK202
        clear BK212
        clear HB
        have HO210:=n0_
        have BK202:=n1_
        have BK212:=n2_
        have HB:=n3_
        clear n0_ n1_ n2_ n3_
        refine start_ (n:=10) (S:=fun w'=>w'.cell? ⟨gb212,0,none⟩ = some (.int .u32 t207) ∧ w'.cell? ⟨gb212,1,none⟩ = some (.slice Ao29 t208.length co29) ∧ w'.cell? ⟨gb202,0,none⟩ = some (.int .u32 a0_0) ∧ w'.cell? ⟨gb202,1,none⟩ = some (.slice A0_1 l0_1.length c0_1)) (ds:=[]) #[false,false,false,false,false,false,false,false,false,false] (by kernel_rfl) rfl rfl ⟨(blk_cell BK212.out 0).trans rfl,(blk_cell BK212.out 1).trans rfl,(blk_cell BK202.out 0).trans rfl,(blk_cell BK202.out 1).trans rfl⟩ (fun hHeld=>?_);refine with_tabW bosunlaw17_CkoneBack.tab6 bosunlaw17_CkoneBack.bits6 (fun HT_ HW_=>?_)
        generalize w30.drew = w31 at HO210 BK202 BK212 HB hHeld ⊢
        refine pure_ (i:=0) (N:=some 33) (v:=?_) (a':=?_) #[true,false,false,false,false,false,false,false,false,false] rfl rfl (any_of HT_.out (by kernel_rfl)) (fun _ _ _ h=>h) (Or.inl ⟨by rfl,?_⟩) ?_ ?_
        rotate_left
        ·intro w'
         go_simp
         with_reducible rfl
        rotate_left
        ·simp only [Act.put,List.setIfInBounds_toArray,List.set_cons_zero,List.set_cons_succ,i64_w,i32_w]
         rfl
        refine pure_ (i:=1) (N:=some 34) (v:=?_) (a':=?_) #[true,true,false,false,false,false,false,false,false,false] rfl rfl (any_of HT_.out (by kernel_rfl)) (fun _ _ _ h=>h) (Or.inl ⟨by rfl,?_⟩) ?_ ?_
        rotate_left
        ·intro w'
         go_simp
         with_reducible rfl
        rotate_left
        ·simp only [Act.put,List.setIfInBounds_toArray,List.set_cons_zero,List.set_cons_succ,i64_w,i32_w]
         rfl
        refine pure_ (i:=2) (N:=some 35) (v:=?_) (a':=?_) #[true,true,true,false,false,false,false,false,false,false] rfl rfl (any_of HT_.out (by kernel_rfl)) (fun _ _ _ h=>h) (Or.inl ⟨by rfl,?_⟩) ?_ ?_
        rotate_left
        ·intro w'
         go_simp
         with_reducible rfl
        rotate_left
        ·simp only [Act.put,List.setIfInBounds_toArray,List.set_cons_zero,List.set_cons_succ,i64_w,i32_w]
         rfl
        refine take_ (i:=3) (N:=some 36) (v:=?_) (a':=?_) #[true,true,true,true,false,false,false,false,false,false] rfl rfl (take_ofW HT_.out HW_.out (by kernel_rfl)) (fun _ _ _ h=>h) (Or.inl ⟨by rfl,?_⟩) hHeld ?_ ?_
        rotate_left
        ·rintro w' ⟨s0,s1,s2,s3⟩
         go_simp
         with_reducible rfl
        rotate_left
        ·simp only [Act.put,List.setIfInBounds_toArray,List.set_cons_zero,List.set_cons_succ,i64_w,i32_w]
         rfl
        refine take_ (i:=5) (N:=some 38) (v:=?_) (a':=?_) #[true,true,true,true,false,true,false,false,false,false] rfl rfl (take_ofW HT_.out HW_.out (by kernel_rfl)) (fun _ _ _ h=>h) (Or.inl ⟨by rfl,?_⟩) hHeld ?_ ?_
        rotate_left
        ·rintro w' ⟨s0,s1,s2,s3⟩
         go_simp
         with_reducible rfl
        rotate_left
        ·simp only [Act.put,List.setIfInBounds_toArray,List.set_cons_zero,List.set_cons_succ,i64_w,i32_w]
         rfl
        refine one_ (i:=4) (N:=some 37) #[true,true,true,true,true,true,false,false,false,false] rfl rfl (one_of HT_.out (by kernel_rfl)) (by decide) (fun K hK=>?_)
        refine goes_ Tryd.func11 (by kernel_rfl) rfl #[.agg #[.int .u32 t207,.slice Ao29 t208.length co29]] (by rfl) rfl rfl (by (try simp only [List.map_toArray,List.map_cons,List.map_nil]);first|done|rfl|(simp only [List.length_drop,List.length_take];rfl)) ?_
        with_reducible refine (bosunlaw17_Of.calls kj2 t207 _ _ t208 t213 t214 _ ?side1 ?side2 A21.out).mono ?_
        (case side1=>repeat (first|exact (Kd.R_reads' HO210.out).2.2|(with_reducible refine Kd.C_alloc ?_ _)|(with_reducible refine Kd.C_drewN ?_ _)|(with_reducible refine Kd.C_drew ?_)))
        (case side2=>exact (Kd.R_reads' HO210.out).2.1)
        rintro e w32 ⟨v215,rfl,ho0,hb⟩
        refine ⟨_,rfl,?_⟩
        have n0_:=Aside0.mk (Kd.R_below (by (with_reducible repeat (first|apply Kd.R_alloc|apply Kd.R_drewN|apply Kd.R_drew));exact HO210.out) hb)
        have n1_:=Aside0.mk (Kd.R_lower ho0 (below_size (by repeat (first|(with_reducible first|exact HB.out|apply below_alloc|apply pw_below_drewN|apply below_drew1|refine below_set ?_ GE202.out|refine below_set ?_ GE212.out)|exact HB.out))))
        have n2_:=Aside0.mk (blk_below (g:=gb202) (o:=.cells #[.int .u32 a0_0,.slice A0_1 l0_1.length c0_1] 25 (0,0)) (by (with_reducible repeat (first|apply blk_drewN|apply blk_drew|apply blk_alloc));exact BK202.out) hb)
        have n3_:=Aside0.mk (blk_below (g:=gb212) (o:=.cells #[.int .u32 t207,.slice Ao29 t208.length co29] 25 (0,0)) (by (with_reducible repeat (first|apply blk_drewN|apply blk_drew|apply blk_alloc));exact BK212.out) hb)
        have n4_:=Aside0.mk (below_step (by repeat (first|(with_reducible first|exact HB.out|apply below_alloc|apply pw_below_drewN|apply below_drew1|refine below_set ?_ GE202.out|refine below_set ?_ GE212.out)|exact HB.out)) hb)
        clear HO210
        clear BK202
        clear BK212
        clear HB
        have HO210:=n0_
        have HO216:=n1_
        have BK202:=n2_
        have BK212:=n3_
        have HB:=n4_
        clear n0_ n1_ n2_ n3_ n4_
        (try clear hb)
        (try clear hb2)
        (try clear hk)
        (try clear hi)
        (try clear ho0)
        refine hK.out _ _ ⟨(blk_cell BK212.out 0).trans rfl,(blk_cell BK212.out 1).trans rfl,(blk_cell BK202.out 0).trans rfl,(blk_cell BK202.out 1).trans rfl⟩ (fun hHeld=>?_)
        clear hK K
        refine norm_ (a':=?_) ?_ ?_
        rotate_left
        ·show Act.put _ (some 37) _ = _
         simp only [Act.put,List.setIfInBounds_toArray,List.set_cons_zero,List.set_cons_succ,i64_w,i32_w]
         rfl
        refine one_ (i:=6) (N:=some 39) #[true,true,true,true,true,true,true,false,false,false] rfl rfl (one_of HT_.out (by kernel_rfl)) (by decide) (fun K hK=>?_)
        refine goes_ Tryd.func11 (by kernel_rfl) rfl #[.agg #[.int .u32 a0_0,.slice A0_1 l0_1.length c0_1]] (by rfl) rfl rfl (by (try simp only [List.map_toArray,List.map_cons,List.map_nil]);first|done|rfl|(simp only [List.length_drop,List.length_take];rfl)) ?_
        with_reducible refine (bosunlaw17_Of.calls kj2 a0_0 _ _ l0_1 t217 t218 _ ?side1 ?side2 A22.out).mono ?_
        (case side1=>repeat (first|exact (Kd.C_below HR0_1.out HB.out)|(with_reducible refine Kd.C_alloc ?_ _)|(with_reducible refine Kd.C_drewN ?_ _)|(with_reducible refine Kd.C_drew ?_)))
        (case side2=>exact HC0_1.out)
        rintro e w33 ⟨v219,rfl,ho0,hb⟩
        refine ⟨_,rfl,?_⟩
        have n0_:=Aside0.mk (Kd.R_below (by (with_reducible repeat (first|apply Kd.R_alloc|apply Kd.R_drewN|apply Kd.R_drew));exact HO210.out) hb)
        have n1_:=Aside0.mk (Kd.R_elder' (by (with_reducible repeat (first|apply Kd.R_alloc|apply Kd.R_drewN|apply Kd.R_drew));exact HO216.out) (Kd.R_base ho0) hb)
        have n2_:=Aside0.mk (Kd.R_lower (Kd.R_new' ho0 (Kd.R_lt (by (with_reducible repeat (first|apply Kd.R_alloc|apply Kd.R_drewN|apply Kd.R_drew));exact HO216.out))) (below_size (by repeat (first|(with_reducible first|exact HB.out|apply below_alloc|apply pw_below_drewN|apply below_drew1|refine below_set ?_ GE202.out|refine below_set ?_ GE212.out)|exact HB.out))))
        have n3_:=Aside0.mk (blk_below (g:=gb202) (o:=.cells #[.int .u32 a0_0,.slice A0_1 l0_1.length c0_1] 25 (0,0)) (by (with_reducible repeat (first|apply blk_drewN|apply blk_drew|apply blk_alloc));exact BK202.out) hb)
        have n4_:=Aside0.mk (blk_below (g:=gb212) (o:=.cells #[.int .u32 t207,.slice Ao29 t208.length co29] 25 (0,0)) (by (with_reducible repeat (first|apply blk_drewN|apply blk_drew|apply blk_alloc));exact BK212.out) hb)
        have n5_:=Aside0.mk (below_step (by repeat (first|(with_reducible first|exact HB.out|apply below_alloc|apply pw_below_drewN|apply below_drew1|refine below_set ?_ GE202.out|refine below_set ?_ GE212.out)|exact HB.out)) hb)
        clear HO210
        clear HO216
        clear BK202
        clear BK212
        clear HB
        have HO210:=n0_
        have HO216:=n1_
        have HO220:=n2_
        have BK202:=n3_
        have BK212:=n4_
        have HB:=n5_
        clear n0_ n1_ n2_ n3_ n4_ n5_
        (try clear hb)
        (try clear hb2)
        (try clear hk)
        (try clear hi)
        (try clear ho0)
        obtain ⟨Ao34,co34,eo34⟩:=Kd.R_slice HO216.out
        (first|subst eo34|(injection eo34 with f1_ f2_ f3_;have f4_:=f1_.symm;have f5_:=f3_.symm;clear f1_ f2_ f3_;subst f4_;subst f5_))
        obtain ⟨Ao35,co35,eo35⟩:=Kd.R_slice HO220.out
        (first|subst eo35|(injection eo35 with f1_ f2_ f3_;have f4_:=f1_.symm;have f5_:=f3_.symm;clear f1_ f2_ f3_;subst f4_;subst f5_))
        refine hK.out _ _ ⟨(blk_cell BK212.out 0).trans rfl,(blk_cell BK212.out 1).trans rfl,(blk_cell BK202.out 0).trans rfl,(blk_cell BK202.out 1).trans rfl⟩ (fun hHeld=>?_)
        clear hK K
        refine norm_ (a':=?_) ?_ ?_
        rotate_left
        ·show Act.put _ (some 39) _ = _
         simp only [Act.put,List.setIfInBounds_toArray,List.set_cons_zero,List.set_cons_succ,i64_w,i32_w]
         rfl
        refine one_ (i:=7) (N:=some 40) #[true,true,true,true,true,true,true,true,false,false] rfl rfl (one_of HT_.out (by kernel_rfl)) (by decide) (fun K hK=>?_)
        refine goes_ Tryd.func17 (by kernel_rfl) rfl #[.agg #[.int .u32 t213,.slice Ao34 t214.length co34],.agg #[.int .u32 t217,.slice Ao35 t218.length co35]] (by rfl) rfl rfl (by (try simp only [List.map_toArray,List.map_cons,List.map_nil]);first|done|rfl|(simp only [List.length_drop,List.length_take];rfl)) ?_
        with_reducible refine (bosunref17_Same.calls kj2 t213 _ _ t214 t217 _ _ t218 true _ ?side1 ?side2 ?side3 ?side4 A23.out).mono ?_
        (case side1=>repeat (first|exact (Kd.R_reads' HO216.out).2.2|(with_reducible refine Kd.C_alloc ?_ _)|(with_reducible refine Kd.C_drewN ?_ _)|(with_reducible refine Kd.C_drew ?_)))
        (case side2=>exact (Kd.R_reads' HO216.out).2.1)
        (case side3=>repeat (first|exact (Kd.R_reads' HO220.out).2.2|(with_reducible refine Kd.C_alloc ?_ _)|(with_reducible refine Kd.C_drewN ?_ _)|(with_reducible refine Kd.C_drew ?_)))
        (case side4=>exact (Kd.R_reads' HO220.out).2.1)
        rintro e w36 ⟨rfl,hb⟩
        refine ⟨_,rfl,?_⟩
        have n0_:=Aside0.mk (Kd.R_below (by (with_reducible repeat (first|apply Kd.R_alloc|apply Kd.R_drewN|apply Kd.R_drew));exact HO210.out) hb)
        have n1_:=Aside0.mk (Kd.R_below (by (with_reducible repeat (first|apply Kd.R_alloc|apply Kd.R_drewN|apply Kd.R_drew));exact HO216.out) hb)
        have n2_:=Aside0.mk (Kd.R_below (by (with_reducible repeat (first|apply Kd.R_alloc|apply Kd.R_drewN|apply Kd.R_drew));exact HO220.out) hb)
        have n3_:=Aside0.mk (blk_below (g:=gb202) (o:=.cells #[.int .u32 a0_0,.slice A0_1 l0_1.length c0_1] 25 (0,0)) (by (with_reducible repeat (first|apply blk_drewN|apply blk_drew|apply blk_alloc));exact BK202.out) hb)
        have n4_:=Aside0.mk (blk_below (g:=gb212) (o:=.cells #[.int .u32 t207,.slice Ao29 t208.length co29] 25 (0,0)) (by (with_reducible repeat (first|apply blk_drewN|apply blk_drew|apply blk_alloc));exact BK212.out) hb)
        have n5_:=Aside0.mk (below_step (by repeat (first|(with_reducible first|exact HB.out|apply below_alloc|apply pw_below_drewN|apply below_drew1|refine below_set ?_ GE202.out|refine below_set ?_ GE212.out)|exact HB.out)) hb)
        clear HO210
        clear HO216
        clear HO220
        clear BK202
        clear BK212
        clear HB
        have HO210:=n0_
        have HO216:=n1_
        have HO220:=n2_
        have BK202:=n3_
        have BK212:=n4_
        have HB:=n5_
        clear n0_ n1_ n2_ n3_ n4_ n5_
        (try clear hb)
        (try clear hb2)
        (try clear hk)
        (try clear hi)
        refine hK.out _ _ ⟨(blk_cell BK212.out 0).trans rfl,(blk_cell BK212.out 1).trans rfl,(blk_cell BK202.out 0).trans rfl,(blk_cell BK202.out 1).trans rfl⟩ (fun hHeld=>?_)
        clear hK K
        refine norm_ (a':=?_) ?_ ?_
        rotate_left
        ·show Act.put _ (some 40) _ = _
         simp only [Act.put,List.setIfInBounds_toArray,List.set_cons_zero,List.set_cons_succ,i64_w,i32_w]
         rfl
        refine pure_ (i:=8) (N:=some 41) (v:=?_) (a':=?_) #[true,true,true,true,true,true,true,true,true,false] rfl rfl (any_of HT_.out (by kernel_rfl)) (fun _ _ _ h=>h) (Or.inl ⟨by rfl,?_⟩) ?_ ?_
        rotate_left
        ·intro w'
         go_simp
         with_reducible rfl
        rotate_left
        ·simp only [Act.put,List.setIfInBounds_toArray,List.set_cons_zero,List.set_cons_succ,i64_w,i32_w]
         rfl
        refine pure_ (i:=9) (N:=some 42) (v:=?_) (a':=?_) #[true,true,true,true,true,true,true,true,true,true] rfl rfl (any_of HT_.out (by kernel_rfl)) (fun _ _ _ h=>h) (Or.inl ⟨by rfl,?_⟩) ?_ ?_
        rotate_left
        ·intro w'
         go_simp
         with_reducible rfl
        rotate_left
        ·simp only [Act.put,List.setIfInBounds_toArray,List.set_cons_zero,List.set_cons_succ,i64_w,i32_w]
         rfl
        refine done_ (done_of HT_.out (by kernel_rfl)) ?_
        try go_wp2
        go_meet
        case rel=>exact ⟨_,H',⟨by have:=HJ2.out;first|omega|exact Nat.le_refl _⟩,⟨by (with_reducible repeat (first|apply blk_drewN|apply blk_drew|apply blk_alloc));exact BK202.out⟩,⟨by repeat (first|(with_reducible first|exact HB.out|apply below_alloc|apply pw_below_drewN|apply below_drew1|refine below_set ?_ GE202.out|refine below_set ?_ GE212.out)|exact HB.out)⟩⟩
       ·replace c24:=Bool.eq_false_iff.mpr c24
        subst c24
        have H1 : (some false) = some r:=by rw [if_neg (show ¬ (false = true) by decide)] at H;exact H
        clear H
        have H:=H1
        clear H1
        obtain rfl:=Option.some.inj H
        try go_wp2_with (first|((with_reducible refine gate_callee (f:=20) rfl ?_);refine goesL_ (some 30) rfl rfl Tryd.func20 (by kernel_rfl) rfl #[.string t205] rfl (by (try simp only [List.map_toArray,List.map_cons,List.map_nil]);first|done|rfl|(simp only [List.length_drop,List.length_take];rfl)|(simp (disch:=first|omega|(simp at *;omega)) only [u64_id,i64_id,u8_id];rfl)) ?_;(with_reducible refine (ckone_Decode.calls kj2 t205 t207 t208 t211 _ A19.out).mono ?_);rintro e w37 ⟨v209,rfl,ho0,hb⟩;refine ⟨_,rfl,?_⟩;have n0_:=Aside0.mk (Kd.R_lower ho0 (below_size (by repeat (first|(with_reducible first|exact HB.out|apply below_alloc|apply pw_below_drewN|apply below_drew1|refine below_set ?_ GE202.out)|exact HB.out))));have n1_:=Aside0.mk (blk_below (g:=gb202) (o:=.cells #[.int .u32 a0_0,.slice A0_1 l0_1.length c0_1] 25 (0,0)) (by (with_reducible repeat (first|apply blk_drewN|apply blk_drew|apply blk_alloc));exact BK202.out) hb);have n2_:=Aside0.mk (below_step (by repeat (first|(with_reducible first|exact HB.out|apply below_alloc|apply pw_below_drewN|apply below_drew1|refine below_set ?_ GE202.out)|exact HB.out)) hb);clear BK202;clear HB;have HO210:=n0_;have BK202:=n1_;have HB:=n2_;clear n0_ n1_ n2_;(try clear hb);(try clear hb2);(try clear hk);(try clear hi);(try clear ho0))|((with_reducible refine gate_dst (N:=7) rfl ?_);refine box_event ?hg (N:=7) ?hd (cs:=#[.int .u32 0,.slice none 0 0]) (t:=25) ?hr ?_;(case hd=>rfl);(case hg=>rfl);(case hr=>first|(go_simp;done)|(go_simp;rfl));intro gb212 hg w38 hbox hb;have n0_:=Aside0.mk (Kd.R_below (by (with_reducible repeat (first|apply Kd.R_alloc|apply Kd.R_drewN|apply Kd.R_drew));exact HO210.out) hb);have n1_:=Aside0.mk (blk_below (g:=gb202) (o:=.cells #[.int .u32 a0_0,.slice A0_1 l0_1.length c0_1] 25 (0,0)) (by (with_reducible repeat (first|apply blk_drewN|apply blk_drew|apply blk_alloc));exact BK202.out) hb);have n2_:=Aside0.mk (below_step (by repeat (first|(with_reducible first|exact HB.out|apply below_alloc|apply pw_below_drewN|apply below_drew1|refine below_set ?_ GE202.out)|exact HB.out)) hb);have n3_:=Aside0.mk (hbox);have n4_:=Aside0.mk ((by rw [hg];exact (below_size (by repeat (first|(with_reducible first|exact HB.out|apply below_alloc|apply pw_below_drewN|apply below_drew1|refine below_set ?_ GE202.out)|exact HB.out))) : w.heap.size ≤ gb212));have n5_:=Aside0.mk ((by rw [hg];exact (below_size (by repeat (first|(with_reducible first|exact HB.out|apply below_alloc|apply pw_below_drewN|apply below_drew1|refine below_set ?_ GE202.out)|exact HB.out))) : w.heap.size ≤ gb212));have n6_:=Aside0.mk ((by rw [hg];exact Nat.ne_of_lt (blk_lt (g:=gb202) (o:=.cells #[.int .u32 a0_0,.slice A0_1 l0_1.length c0_1] 25 (0,0)) (by (with_reducible repeat (first|apply blk_drewN|apply blk_drew|apply blk_alloc));exact BK202.out)) : gb202 ≠ gb212));have n7_:=Aside0.mk ((by rw [hg];exact Nat.ne_of_gt (blk_lt (g:=gb202) (o:=.cells #[.int .u32 a0_0,.slice A0_1 l0_1.length c0_1] 25 (0,0)) (by (with_reducible repeat (first|apply blk_drewN|apply blk_drew|apply blk_alloc));exact BK202.out)) : gb212 ≠ gb202));clear HO210;clear BK202;clear HB;have HO210:=n0_;have BK202:=n1_;have HB:=n2_;have BK212:=n3_;have GW212:=n4_;have GE212:=n5_;have NB202_212:=n6_;have NB212_202:=n7_;clear n0_ n1_ n2_ n3_ n4_ n5_ n6_ n7_;clear hb hbox hg;have hnb39:=NB212_202.out;have hnc39:=NB202_212.out;have hcz40_0 : w38.cell? ⟨gb212,0,none⟩ = some (.int .u32 0):=(blk_cell BK212.out 0).trans rfl;have hcz40_1 : w38.cell? ⟨gb212,1,none⟩ = some (.slice none 0 0):=(blk_cell BK212.out 1).trans rfl;have hfz40_0:=blk_frozen BK212.out 0;have hfz40_1:=blk_frozen BK212.out 1;obtain ⟨Ao41,co41,eo41⟩:=Kd.R_slice HO210.out;subst eo41))
        have n0_ : Aside0 (Kd.R k66 66 ((w38.setCell ⟨gb212,0,none⟩ (.int .u32 t207)).setCell ⟨gb212,1,none⟩ (.slice Ao41 t208.length co41)) w.heap.size (fun _=>True) (.slice Ao41 t208.length co41) t208):=⟨by (with_reducible repeat (first|apply Kd.R_alloc|apply Kd.R_drewN|apply Kd.R_drew));exact Kd.R_mono (Kd.R_far (p:=⟨gb212,1,none⟩) (Kd.R_far (p:=⟨gb212,0,none⟩) (Kd.R_types HO210.out BK212.out (by decide)) (fun _ hk=>hk.2) (.int .u32 t207)) (fun _ hk=>hk.2) (.slice Ao41 t208.length co41)) (fun _ hk=>trivial)⟩
        have n1_ : Aside0 (((w38.setCell ⟨gb212,0,none⟩ (.int .u32 t207)).setCell ⟨gb212,1,none⟩ (.slice Ao41 t208.length co41)).heap[gb202]? = some (.cells #[.int .u32 a0_0,.slice A0_1 l0_1.length c0_1] 25 (0,0))):=⟨by (with_reducible repeat (first|apply blk_drewN|apply blk_drew|apply blk_alloc));refine blk_far ?_ NB202_212.out _;(with_reducible repeat (first|apply blk_drewN|apply blk_drew|apply blk_alloc));refine blk_far ?_ NB202_212.out _;(with_reducible repeat (first|apply blk_drewN|apply blk_drew|apply blk_alloc));exact BK202.out⟩
        have n2_ : Aside0 (((w38.setCell ⟨gb212,0,none⟩ (.int .u32 t207)).setCell ⟨gb212,1,none⟩ (.slice Ao41 t208.length co41)).heap[gb212]? = some (.cells #[.int .u32 t207,.slice Ao41 t208.length co41] 25 (0,0))):=⟨by (with_reducible repeat (first|apply blk_drewN|apply blk_drew|apply blk_alloc));refine blk_put (cs:=#[.int .u32 t207,.slice none 0 0]) ?_ 1 _ rfl;(with_reducible repeat (first|apply blk_drewN|apply blk_drew|apply blk_alloc));refine blk_put (cs:=#[.int .u32 0,.slice none 0 0]) ?_ 0 _ rfl;(with_reducible repeat (first|apply blk_drewN|apply blk_drew|apply blk_alloc));exact BK212.out⟩
        have n3_ : Aside0 (Below w.heap.size w ((w38.setCell ⟨gb212,0,none⟩ (.int .u32 t207)).setCell ⟨gb212,1,none⟩ (.slice Ao41 t208.length co41))):=⟨by repeat (first|(with_reducible first|exact HB.out|apply below_alloc|apply pw_below_drewN|apply below_drew1|refine below_set ?_ GE202.out|refine below_set ?_ GE212.out)|exact HB.out)⟩
        (try clear HO210)
        (try clear BK202)
        (try clear BK212)
        (try clear HB)
        generalize ((w38.setCell ⟨gb212,0,none⟩ (.int .u32 t207)).setCell ⟨gb212,1,none⟩ (.slice Ao41 t208.length co41)) = w42 at n0_ n1_ n2_ n3_ ⊢
        have HO210:=n0_
        have BK202:=n1_
        have BK212:=n2_
        have HB:=n3_
        clear n0_ n1_ n2_ n3_
        have n0_:=Aside0.mk (Kd.R_drew HO210.out)
        have n1_:=Aside0.mk (blk_drew BK202.out)
        have n2_:=Aside0.mk (blk_drew BK212.out)
        have n3_:=Aside0.mk (below_drew1 HB.out)
        clear HO210
        clear BK202
        clear BK212
        clear HB
        have HO210:=n0_
        have BK202:=n1_
        have BK212:=n2_
        have HB:=n3_
        clear n0_ n1_ n2_ n3_
        refine start_ (n:=10) (S:=fun w'=>w'.cell? ⟨gb212,0,none⟩ = some (.int .u32 t207) ∧ w'.cell? ⟨gb212,1,none⟩ = some (.slice Ao41 t208.length co41) ∧ w'.cell? ⟨gb202,0,none⟩ = some (.int .u32 a0_0) ∧ w'.cell? ⟨gb202,1,none⟩ = some (.slice A0_1 l0_1.length c0_1)) (ds:=[]) #[false,false,false,false,false,false,false,false,false,false] (by kernel_rfl) rfl rfl ⟨(blk_cell BK212.out 0).trans rfl,(blk_cell BK212.out 1).trans rfl,(blk_cell BK202.out 0).trans rfl,(blk_cell BK202.out 1).trans rfl⟩ (fun hHeld=>?_);refine with_tabW bosunlaw17_CkoneBack.tab6 bosunlaw17_CkoneBack.bits6 (fun HT_ HW_=>?_)
        generalize w42.drew = w43 at HO210 BK202 BK212 HB hHeld ⊢
        refine pure_ (i:=0) (N:=some 33) (v:=?_) (a':=?_) #[true,false,false,false,false,false,false,false,false,false] rfl rfl (any_of HT_.out (by kernel_rfl)) (fun _ _ _ h=>h) (Or.inl ⟨by rfl,?_⟩) ?_ ?_
        rotate_left
        ·intro w'
         go_simp
         with_reducible rfl
        rotate_left
        ·simp only [Act.put,List.setIfInBounds_toArray,List.set_cons_zero,List.set_cons_succ,i64_w,i32_w]
         rfl
        refine pure_ (i:=1) (N:=some 34) (v:=?_) (a':=?_) #[true,true,false,false,false,false,false,false,false,false] rfl rfl (any_of HT_.out (by kernel_rfl)) (fun _ _ _ h=>h) (Or.inl ⟨by rfl,?_⟩) ?_ ?_
        rotate_left
        ·intro w'
         go_simp
         with_reducible rfl
        rotate_left
        ·simp only [Act.put,List.setIfInBounds_toArray,List.set_cons_zero,List.set_cons_succ,i64_w,i32_w]
         rfl
        refine pure_ (i:=2) (N:=some 35) (v:=?_) (a':=?_) #[true,true,true,false,false,false,false,false,false,false] rfl rfl (any_of HT_.out (by kernel_rfl)) (fun _ _ _ h=>h) (Or.inl ⟨by rfl,?_⟩) ?_ ?_
        rotate_left
        ·intro w'
         go_simp
         with_reducible rfl
        rotate_left
        ·simp only [Act.put,List.setIfInBounds_toArray,List.set_cons_zero,List.set_cons_succ,i64_w,i32_w]
         rfl
        refine take_ (i:=3) (N:=some 36) (v:=?_) (a':=?_) #[true,true,true,true,false,false,false,false,false,false] rfl rfl (take_ofW HT_.out HW_.out (by kernel_rfl)) (fun _ _ _ h=>h) (Or.inl ⟨by rfl,?_⟩) hHeld ?_ ?_
        rotate_left
        ·rintro w' ⟨s0,s1,s2,s3⟩
         go_simp
         with_reducible rfl
        rotate_left
        ·simp only [Act.put,List.setIfInBounds_toArray,List.set_cons_zero,List.set_cons_succ,i64_w,i32_w]
         rfl
        refine take_ (i:=5) (N:=some 38) (v:=?_) (a':=?_) #[true,true,true,true,false,true,false,false,false,false] rfl rfl (take_ofW HT_.out HW_.out (by kernel_rfl)) (fun _ _ _ h=>h) (Or.inl ⟨by rfl,?_⟩) hHeld ?_ ?_
        rotate_left
        ·rintro w' ⟨s0,s1,s2,s3⟩
         go_simp
         with_reducible rfl
        rotate_left
        ·simp only [Act.put,List.setIfInBounds_toArray,List.set_cons_zero,List.set_cons_succ,i64_w,i32_w]
         rfl
        refine one_ (i:=4) (N:=some 37) #[true,true,true,true,true,true,false,false,false,false] rfl rfl (one_of HT_.out (by kernel_rfl)) (by decide) (fun K hK=>?_)
        refine goes_ Tryd.func11 (by kernel_rfl) rfl #[.agg #[.int .u32 t207,.slice Ao41 t208.length co41]] (by rfl) rfl rfl (by (try simp only [List.map_toArray,List.map_cons,List.map_nil]);first|done|rfl|(simp only [List.length_drop,List.length_take];rfl)) ?_
        with_reducible refine (bosunlaw17_Of.calls kj2 t207 _ _ t208 t213 t214 _ ?side1 ?side2 A21.out).mono ?_
        (case side1=>repeat (first|exact (Kd.R_reads' HO210.out).2.2|(with_reducible refine Kd.C_alloc ?_ _)|(with_reducible refine Kd.C_drewN ?_ _)|(with_reducible refine Kd.C_drew ?_)))
        (case side2=>exact (Kd.R_reads' HO210.out).2.1)
        rintro e w44 ⟨v215,rfl,ho0,hb⟩
        refine ⟨_,rfl,?_⟩
        have n0_:=Aside0.mk (Kd.R_below (by (with_reducible repeat (first|apply Kd.R_alloc|apply Kd.R_drewN|apply Kd.R_drew));exact HO210.out) hb)
        have n1_:=Aside0.mk (Kd.R_lower ho0 (below_size (by repeat (first|(with_reducible first|exact HB.out|apply below_alloc|apply pw_below_drewN|apply below_drew1|refine below_set ?_ GE202.out|refine below_set ?_ GE212.out)|exact HB.out))))
        have n2_:=Aside0.mk (blk_below (g:=gb202) (o:=.cells #[.int .u32 a0_0,.slice A0_1 l0_1.length c0_1] 25 (0,0)) (by (with_reducible repeat (first|apply blk_drewN|apply blk_drew|apply blk_alloc));exact BK202.out) hb)
        have n3_:=Aside0.mk (blk_below (g:=gb212) (o:=.cells #[.int .u32 t207,.slice Ao41 t208.length co41] 25 (0,0)) (by (with_reducible repeat (first|apply blk_drewN|apply blk_drew|apply blk_alloc));exact BK212.out) hb)
        have n4_:=Aside0.mk (below_step (by repeat (first|(with_reducible first|exact HB.out|apply below_alloc|apply pw_below_drewN|apply below_drew1|refine below_set ?_ GE202.out|refine below_set ?_ GE212.out)|exact HB.out)) hb)
        clear HO210
        clear BK202
        clear BK212
        clear HB
        have HO210:=n0_
        have HO216:=n1_
        have BK202:=n2_
        have BK212:=n3_
        have HB:=n4_
        clear n0_ n1_ n2_ n3_ n4_
        (try clear hb)
        (try clear hb2)
        (try clear hk)
        (try clear hi)
        (try clear ho0)
        refine hK.out _ _ ⟨(blk_cell BK212.out 0).trans rfl,(blk_cell BK212.out 1).trans rfl,(blk_cell BK202.out 0).trans rfl,(blk_cell BK202.out 1).trans rfl⟩ (fun hHeld=>?_)
        clear hK K
        refine norm_ (a':=?_) ?_ ?_
        rotate_left
        ·show Act.put _ (some 37) _ = _
         simp only [Act.put,List.setIfInBounds_toArray,List.set_cons_zero,List.set_cons_succ,i64_w,i32_w]
         rfl
        refine one_ (i:=6) (N:=some 39) #[true,true,true,true,true,true,true,false,false,false] rfl rfl (one_of HT_.out (by kernel_rfl)) (by decide) (fun K hK=>?_)
        refine goes_ Tryd.func11 (by kernel_rfl) rfl #[.agg #[.int .u32 a0_0,.slice A0_1 l0_1.length c0_1]] (by rfl) rfl rfl (by (try simp only [List.map_toArray,List.map_cons,List.map_nil]);first|done|rfl|(simp only [List.length_drop,List.length_take];rfl)) ?_
        with_reducible refine (bosunlaw17_Of.calls kj2 a0_0 _ _ l0_1 t217 t218 _ ?side1 ?side2 A22.out).mono ?_
        (case side1=>repeat (first|exact (Kd.C_below HR0_1.out HB.out)|(with_reducible refine Kd.C_alloc ?_ _)|(with_reducible refine Kd.C_drewN ?_ _)|(with_reducible refine Kd.C_drew ?_)))
        (case side2=>exact HC0_1.out)
        rintro e w45 ⟨v219,rfl,ho0,hb⟩
        refine ⟨_,rfl,?_⟩
        have n0_:=Aside0.mk (Kd.R_below (by (with_reducible repeat (first|apply Kd.R_alloc|apply Kd.R_drewN|apply Kd.R_drew));exact HO210.out) hb)
        have n1_:=Aside0.mk (Kd.R_elder' (by (with_reducible repeat (first|apply Kd.R_alloc|apply Kd.R_drewN|apply Kd.R_drew));exact HO216.out) (Kd.R_base ho0) hb)
        have n2_:=Aside0.mk (Kd.R_lower (Kd.R_new' ho0 (Kd.R_lt (by (with_reducible repeat (first|apply Kd.R_alloc|apply Kd.R_drewN|apply Kd.R_drew));exact HO216.out))) (below_size (by repeat (first|(with_reducible first|exact HB.out|apply below_alloc|apply pw_below_drewN|apply below_drew1|refine below_set ?_ GE202.out|refine below_set ?_ GE212.out)|exact HB.out))))
        have n3_:=Aside0.mk (blk_below (g:=gb202) (o:=.cells #[.int .u32 a0_0,.slice A0_1 l0_1.length c0_1] 25 (0,0)) (by (with_reducible repeat (first|apply blk_drewN|apply blk_drew|apply blk_alloc));exact BK202.out) hb)
        have n4_:=Aside0.mk (blk_below (g:=gb212) (o:=.cells #[.int .u32 t207,.slice Ao41 t208.length co41] 25 (0,0)) (by (with_reducible repeat (first|apply blk_drewN|apply blk_drew|apply blk_alloc));exact BK212.out) hb)
        have n5_:=Aside0.mk (below_step (by repeat (first|(with_reducible first|exact HB.out|apply below_alloc|apply pw_below_drewN|apply below_drew1|refine below_set ?_ GE202.out|refine below_set ?_ GE212.out)|exact HB.out)) hb)
        clear HO210
        clear HO216
        clear BK202
        clear BK212
        clear HB
        have HO210:=n0_
        have HO216:=n1_
        have HO220:=n2_
        have BK202:=n3_
        have BK212:=n4_
        have HB:=n5_
        clear n0_ n1_ n2_ n3_ n4_ n5_
        (try clear hb)
        (try clear hb2)
        (try clear hk)
        (try clear hi)
        (try clear ho0)
        obtain ⟨Ao46,co46,eo46⟩:=Kd.R_slice HO216.out
        (first|subst eo46|(injection eo46 with f1_ f2_ f3_;have f4_:=f1_.symm;have f5_:=f3_.symm;clear f1_ f2_ f3_;subst f4_;subst f5_))
        obtain ⟨Ao47,co47,eo47⟩:=Kd.R_slice HO220.out
        (first|subst eo47|(injection eo47 with f1_ f2_ f3_;have f4_:=f1_.symm;have f5_:=f3_.symm;clear f1_ f2_ f3_;subst f4_;subst f5_))
        refine hK.out _ _ ⟨(blk_cell BK212.out 0).trans rfl,(blk_cell BK212.out 1).trans rfl,(blk_cell BK202.out 0).trans rfl,(blk_cell BK202.out 1).trans rfl⟩ (fun hHeld=>?_)
        clear hK K
        refine norm_ (a':=?_) ?_ ?_
        rotate_left
        ·show Act.put _ (some 39) _ = _
         simp only [Act.put,List.setIfInBounds_toArray,List.set_cons_zero,List.set_cons_succ,i64_w,i32_w]
         rfl
        refine one_ (i:=7) (N:=some 40) #[true,true,true,true,true,true,true,true,false,false] rfl rfl (one_of HT_.out (by kernel_rfl)) (by decide) (fun K hK=>?_)
        refine goes_ Tryd.func17 (by kernel_rfl) rfl #[.agg #[.int .u32 t213,.slice Ao46 t214.length co46],.agg #[.int .u32 t217,.slice Ao47 t218.length co47]] (by rfl) rfl rfl (by (try simp only [List.map_toArray,List.map_cons,List.map_nil]);first|done|rfl|(simp only [List.length_drop,List.length_take];rfl)) ?_
        with_reducible refine (bosunref17_Same.calls kj2 t213 _ _ t214 t217 _ _ t218 false _ ?side1 ?side2 ?side3 ?side4 A23.out).mono ?_
        (case side1=>repeat (first|exact (Kd.R_reads' HO216.out).2.2|(with_reducible refine Kd.C_alloc ?_ _)|(with_reducible refine Kd.C_drewN ?_ _)|(with_reducible refine Kd.C_drew ?_)))
        (case side2=>exact (Kd.R_reads' HO216.out).2.1)
        (case side3=>repeat (first|exact (Kd.R_reads' HO220.out).2.2|(with_reducible refine Kd.C_alloc ?_ _)|(with_reducible refine Kd.C_drewN ?_ _)|(with_reducible refine Kd.C_drew ?_)))
        (case side4=>exact (Kd.R_reads' HO220.out).2.1)
        rintro e w48 ⟨rfl,hb⟩
        refine ⟨_,rfl,?_⟩
        have n0_:=Aside0.mk (Kd.R_below (by (with_reducible repeat (first|apply Kd.R_alloc|apply Kd.R_drewN|apply Kd.R_drew));exact HO210.out) hb)
        have n1_:=Aside0.mk (Kd.R_below (by (with_reducible repeat (first|apply Kd.R_alloc|apply Kd.R_drewN|apply Kd.R_drew));exact HO216.out) hb)
        have n2_:=Aside0.mk (Kd.R_below (by (with_reducible repeat (first|apply Kd.R_alloc|apply Kd.R_drewN|apply Kd.R_drew));exact HO220.out) hb)
        have n3_:=Aside0.mk (blk_below (g:=gb202) (o:=.cells #[.int .u32 a0_0,.slice A0_1 l0_1.length c0_1] 25 (0,0)) (by (with_reducible repeat (first|apply blk_drewN|apply blk_drew|apply blk_alloc));exact BK202.out) hb)
        have n4_:=Aside0.mk (blk_below (g:=gb212) (o:=.cells #[.int .u32 t207,.slice Ao41 t208.length co41] 25 (0,0)) (by (with_reducible repeat (first|apply blk_drewN|apply blk_drew|apply blk_alloc));exact BK212.out) hb)
        have n5_:=Aside0.mk (below_step (by repeat (first|(with_reducible first|exact HB.out|apply below_alloc|apply pw_below_drewN|apply below_drew1|refine below_set ?_ GE202.out|refine below_set ?_ GE212.out)|exact HB.out)) hb)
        clear HO210
        clear HO216
        clear HO220
        clear BK202
        clear BK212
        clear HB
        have HO210:=n0_
        have HO216:=n1_
        have HO220:=n2_
        have BK202:=n3_
        have BK212:=n4_
        have HB:=n5_
        clear n0_ n1_ n2_ n3_ n4_ n5_
        (try clear hb)
        (try clear hb2)
        (try clear hk)
        (try clear hi)
        refine hK.out _ _ ⟨(blk_cell BK212.out 0).trans rfl,(blk_cell BK212.out 1).trans rfl,(blk_cell BK202.out 0).trans rfl,(blk_cell BK202.out 1).trans rfl⟩ (fun hHeld=>?_)
        clear hK K
        refine norm_ (a':=?_) ?_ ?_
        rotate_left
        ·show Act.put _ (some 40) _ = _
         simp only [Act.put,List.setIfInBounds_toArray,List.set_cons_zero,List.set_cons_succ,i64_w,i32_w]
         rfl
        refine pure_ (i:=8) (N:=some 41) (v:=?_) (a':=?_) #[true,true,true,true,true,true,true,true,true,false] rfl rfl (any_of HT_.out (by kernel_rfl)) (fun _ _ _ h=>h) (Or.inl ⟨by rfl,?_⟩) ?_ ?_
        rotate_left
        ·intro w'
         go_simp
         with_reducible rfl
        rotate_left
        ·simp only [Act.put,List.setIfInBounds_toArray,List.set_cons_zero,List.set_cons_succ,i64_w,i32_w]
         rfl
        refine pure_ (i:=9) (N:=some 42) (v:=?_) (a':=?_) #[true,true,true,true,true,true,true,true,true,true] rfl rfl (any_of HT_.out (by kernel_rfl)) (fun _ _ _ h=>h) (Or.inl ⟨by rfl,?_⟩) ?_ ?_
        rotate_left
        ·intro w'
         go_simp
         with_reducible rfl
        rotate_left
        ·simp only [Act.put,List.setIfInBounds_toArray,List.set_cons_zero,List.set_cons_succ,i64_w,i32_w]
         rfl
        refine done_ (done_of HT_.out (by kernel_rfl)) ?_
        try go_wp2
        go_ret
        exact ⟨by first|rfl|(simp [errW_none,errW_some] <;> rfl)|(simp [*,errW_none,errW_some] <;> rfl),by repeat (first|(with_reducible first|exact HB.out|apply below_alloc|apply pw_below_drewN|apply below_drew1|refine below_set ?_ GE202.out|refine below_set ?_ GE212.out)|exact HB.out)⟩
      ·rw [if_neg c20] at H
       have c20b0 : (t211 == 0) = false:=beq_eq_false_iff_ne.mpr c20
       have c20b1 : (t211 != 0) = true:=bne_iff_ne.mpr c20
       obtain rfl:=Option.some.inj H
       try go_wp2_with (first|((with_reducible refine gate_callee (f:=20) rfl ?_);refine goesL_ (some 30) rfl rfl Tryd.func20 (by kernel_rfl) rfl #[.string t205] rfl (by (try simp only [List.map_toArray,List.map_cons,List.map_nil]);first|done|rfl|(simp only [List.length_drop,List.length_take];rfl)|(simp (disch:=first|omega|(simp at *;omega)) only [u64_id,i64_id,u8_id];rfl)) ?_;(with_reducible refine (ckone_Decode.calls kj2 t205 t207 t208 t211 _ A19.out).mono ?_);rintro e w49 ⟨v209,rfl,ho0,hb⟩;refine ⟨_,rfl,?_⟩;have n0_:=Aside0.mk (Kd.R_lower ho0 (below_size (by repeat (first|(with_reducible first|exact HB.out|apply below_alloc|apply pw_below_drewN|apply below_drew1|refine below_set ?_ GE202.out)|exact HB.out))));have n1_:=Aside0.mk (blk_below (g:=gb202) (o:=.cells #[.int .u32 a0_0,.slice A0_1 l0_1.length c0_1] 25 (0,0)) (by (with_reducible repeat (first|apply blk_drewN|apply blk_drew|apply blk_alloc));exact BK202.out) hb);have n2_:=Aside0.mk (below_step (by repeat (first|(with_reducible first|exact HB.out|apply below_alloc|apply pw_below_drewN|apply below_drew1|refine below_set ?_ GE202.out)|exact HB.out)) hb);clear BK202;clear HB;have HO210:=n0_;have BK202:=n1_;have HB:=n2_;clear n0_ n1_ n2_;(try clear hb);(try clear hb2);(try clear hk);(try clear hi);(try clear ho0))|((with_reducible refine gate_dst (N:=7) rfl ?_);refine box_event ?hg (N:=7) ?hd (cs:=#[.int .u32 0,.slice none 0 0]) (t:=25) ?hr ?_;(case hd=>rfl);(case hg=>rfl);(case hr=>first|(go_simp;done)|(go_simp;rfl));intro gb212 hg w50 hbox hb;have n0_:=Aside0.mk (Kd.R_below (by (with_reducible repeat (first|apply Kd.R_alloc|apply Kd.R_drewN|apply Kd.R_drew));exact HO210.out) hb);have n1_:=Aside0.mk (blk_below (g:=gb202) (o:=.cells #[.int .u32 a0_0,.slice A0_1 l0_1.length c0_1] 25 (0,0)) (by (with_reducible repeat (first|apply blk_drewN|apply blk_drew|apply blk_alloc));exact BK202.out) hb);have n2_:=Aside0.mk (below_step (by repeat (first|(with_reducible first|exact HB.out|apply below_alloc|apply pw_below_drewN|apply below_drew1|refine below_set ?_ GE202.out)|exact HB.out)) hb);have n3_:=Aside0.mk (hbox);have n4_:=Aside0.mk ((by rw [hg];exact (below_size (by repeat (first|(with_reducible first|exact HB.out|apply below_alloc|apply pw_below_drewN|apply below_drew1|refine below_set ?_ GE202.out)|exact HB.out))) : w.heap.size ≤ gb212));have n5_:=Aside0.mk ((by rw [hg];exact (below_size (by repeat (first|(with_reducible first|exact HB.out|apply below_alloc|apply pw_below_drewN|apply below_drew1|refine below_set ?_ GE202.out)|exact HB.out))) : w.heap.size ≤ gb212));have n6_:=Aside0.mk ((by rw [hg];exact Nat.ne_of_lt (blk_lt (g:=gb202) (o:=.cells #[.int .u32 a0_0,.slice A0_1 l0_1.length c0_1] 25 (0,0)) (by (with_reducible repeat (first|apply blk_drewN|apply blk_drew|apply blk_alloc));exact BK202.out)) : gb202 ≠ gb212));have n7_:=Aside0.mk ((by rw [hg];exact Nat.ne_of_gt (blk_lt (g:=gb202) (o:=.cells #[.int .u32 a0_0,.slice A0_1 l0_1.length c0_1] 25 (0,0)) (by (with_reducible repeat (first|apply blk_drewN|apply blk_drew|apply blk_alloc));exact BK202.out)) : gb212 ≠ gb202));clear HO210;clear BK202;clear HB;have HO210:=n0_;have BK202:=n1_;have HB:=n2_;have BK212:=n3_;have GW212:=n4_;have GE212:=n5_;have NB202_212:=n6_;have NB212_202:=n7_;clear n0_ n1_ n2_ n3_ n4_ n5_ n6_ n7_;clear hb hbox hg;have hnb51:=NB212_202.out;have hnc51:=NB202_212.out;have hcz52_0 : w50.cell? ⟨gb212,0,none⟩ = some (.int .u32 0):=(blk_cell BK212.out 0).trans rfl;have hcz52_1 : w50.cell? ⟨gb212,1,none⟩ = some (.slice none 0 0):=(blk_cell BK212.out 1).trans rfl;have hfz52_0:=blk_frozen BK212.out 0;have hfz52_1:=blk_frozen BK212.out 1;obtain ⟨Ao53,co53,eo53⟩:=Kd.R_slice HO210.out;subst eo53))
       have n0_ : Aside0 (Kd.R k66 66 ((w50.setCell ⟨gb212,0,none⟩ (.int .u32 t207)).setCell ⟨gb212,1,none⟩ (.slice Ao53 t208.length co53)) w.heap.size (fun _=>True) (.slice Ao53 t208.length co53) t208):=⟨by (with_reducible repeat (first|apply Kd.R_alloc|apply Kd.R_drewN|apply Kd.R_drew));exact Kd.R_mono (Kd.R_far (p:=⟨gb212,1,none⟩) (Kd.R_far (p:=⟨gb212,0,none⟩) (Kd.R_types HO210.out BK212.out (by decide)) (fun _ hk=>hk.2) (.int .u32 t207)) (fun _ hk=>hk.2) (.slice Ao53 t208.length co53)) (fun _ hk=>trivial)⟩
       have n1_ : Aside0 (((w50.setCell ⟨gb212,0,none⟩ (.int .u32 t207)).setCell ⟨gb212,1,none⟩ (.slice Ao53 t208.length co53)).heap[gb202]? = some (.cells #[.int .u32 a0_0,.slice A0_1 l0_1.length c0_1] 25 (0,0))):=⟨by (with_reducible repeat (first|apply blk_drewN|apply blk_drew|apply blk_alloc));refine blk_far ?_ NB202_212.out _;(with_reducible repeat (first|apply blk_drewN|apply blk_drew|apply blk_alloc));refine blk_far ?_ NB202_212.out _;(with_reducible repeat (first|apply blk_drewN|apply blk_drew|apply blk_alloc));exact BK202.out⟩
       have n2_ : Aside0 (((w50.setCell ⟨gb212,0,none⟩ (.int .u32 t207)).setCell ⟨gb212,1,none⟩ (.slice Ao53 t208.length co53)).heap[gb212]? = some (.cells #[.int .u32 t207,.slice Ao53 t208.length co53] 25 (0,0))):=⟨by (with_reducible repeat (first|apply blk_drewN|apply blk_drew|apply blk_alloc));refine blk_put (cs:=#[.int .u32 t207,.slice none 0 0]) ?_ 1 _ rfl;(with_reducible repeat (first|apply blk_drewN|apply blk_drew|apply blk_alloc));refine blk_put (cs:=#[.int .u32 0,.slice none 0 0]) ?_ 0 _ rfl;(with_reducible repeat (first|apply blk_drewN|apply blk_drew|apply blk_alloc));exact BK212.out⟩
       have n3_ : Aside0 (Below w.heap.size w ((w50.setCell ⟨gb212,0,none⟩ (.int .u32 t207)).setCell ⟨gb212,1,none⟩ (.slice Ao53 t208.length co53))):=⟨by repeat (first|(with_reducible first|exact HB.out|apply below_alloc|apply pw_below_drewN|apply below_drew1|refine below_set ?_ GE202.out|refine below_set ?_ GE212.out)|exact HB.out)⟩
       (try clear HO210)
       (try clear BK202)
       (try clear BK212)
       (try clear HB)
       generalize ((w50.setCell ⟨gb212,0,none⟩ (.int .u32 t207)).setCell ⟨gb212,1,none⟩ (.slice Ao53 t208.length co53)) = w54 at n0_ n1_ n2_ n3_ ⊢
       have HO210:=n0_
       have BK202:=n1_
       have BK212:=n2_
       have HB:=n3_
       clear n0_ n1_ n2_ n3_
       have n0_:=Aside0.mk (Kd.R_drew HO210.out)
       have n1_:=Aside0.mk (blk_drew BK202.out)
       have n2_:=Aside0.mk (blk_drew BK212.out)
       have n3_:=Aside0.mk (below_drew1 HB.out)
       clear HO210
       clear BK202
       clear BK212
       clear HB
       have HO210:=n0_
       have BK202:=n1_
       have BK212:=n2_
       have HB:=n3_
       clear n0_ n1_ n2_ n3_
       refine start_ (n:=10) (S:=fun w'=>True) (ds:=[]) #[false,false,false,false,false,false,false,false,false,false] (by kernel_rfl) rfl rfl trivial (fun hHeld=>?_);refine with_tabW bosunlaw17_CkoneBack.tab6 bosunlaw17_CkoneBack.bits6 (fun HT_ HW_=>?_)
       generalize w54.drew = w55 at HO210 BK202 BK212 HB hHeld ⊢
       refine pure_ (i:=0) (N:=some 33) (v:=?_) (a':=?_) #[true,false,false,false,false,false,false,false,false,false] rfl rfl (any_of HT_.out (by kernel_rfl)) (fun _ _ _ h=>h) (Or.inl ⟨by rfl,?_⟩) ?_ ?_
       rotate_left
       ·intro w'
        go_simp
        with_reducible rfl
       rotate_left
       ·simp only [Act.put,List.setIfInBounds_toArray,List.set_cons_zero,List.set_cons_succ,i64_w,i32_w]
        rfl
       refine pure_ (i:=1) (N:=some 34) (v:=?_) (a':=?_) #[true,true,false,false,false,false,false,false,false,false] rfl rfl (any_of HT_.out (by kernel_rfl)) (fun _ _ _ h=>h) (Or.inl ⟨by rfl,?_⟩) ?_ ?_
       rotate_left
       ·intro w'
        go_simp
        with_reducible rfl
       rotate_left
       ·simp only [Act.put,List.setIfInBounds_toArray,List.set_cons_zero,List.set_cons_succ,i64_w,i32_w]
        rfl
       refine pure_ (i:=2) (N:=some 35) (v:=?_) (a':=?_) #[true,true,true,false,false,false,false,false,false,false] rfl rfl (any_of HT_.out (by kernel_rfl)) (fun _ _ _ h=>h) (Or.inl ⟨by rfl,?_⟩) ?_ ?_
       rotate_left
       ·intro w'
        go_simp
        with_reducible rfl
       rotate_left
       ·simp only [Act.put,List.setIfInBounds_toArray,List.set_cons_zero,List.set_cons_succ,i64_w,i32_w]
        rfl
       refine pure_ (i:=3) (N:=some 36) (v:=undef) (a':=?_) #[true,true,true,true,false,false,false,false,false,false] rfl rfl (any_of HT_.out (by kernel_rfl)) (fun _ _ _ h=>h) (Or.inr ⟨by rfl,rfl⟩) ?_ ?_
       rotate_left
       ·simp only [Act.put,List.setIfInBounds_toArray,List.set_cons_zero,List.set_cons_succ,i64_w,i32_w]
        rfl
       refine pure_ (i:=4) (N:=some 37) (v:=undef) (a':=?_) #[true,true,true,true,true,false,false,false,false,false] rfl rfl (any_of HT_.out (by kernel_rfl)) (fun _ _ _ h=>h) (Or.inr ⟨by rfl,rfl⟩) ?_ ?_
       rotate_left
       ·simp only [Act.put,List.setIfInBounds_toArray,List.set_cons_zero,List.set_cons_succ,i64_w,i32_w]
        rfl
       refine pure_ (i:=5) (N:=some 38) (v:=undef) (a':=?_) #[true,true,true,true,true,true,false,false,false,false] rfl rfl (any_of HT_.out (by kernel_rfl)) (fun _ _ _ h=>h) (Or.inr ⟨by rfl,rfl⟩) ?_ ?_
       rotate_left
       ·simp only [Act.put,List.setIfInBounds_toArray,List.set_cons_zero,List.set_cons_succ,i64_w,i32_w]
        rfl
       refine pure_ (i:=6) (N:=some 39) (v:=undef) (a':=?_) #[true,true,true,true,true,true,true,false,false,false] rfl rfl (any_of HT_.out (by kernel_rfl)) (fun _ _ _ h=>h) (Or.inr ⟨by rfl,rfl⟩) ?_ ?_
       rotate_left
       ·simp only [Act.put,List.setIfInBounds_toArray,List.set_cons_zero,List.set_cons_succ,i64_w,i32_w]
        rfl
       refine pure_ (i:=7) (N:=some 40) (v:=undef) (a':=?_) #[true,true,true,true,true,true,true,true,false,false] rfl rfl (any_of HT_.out (by kernel_rfl)) (fun _ _ _ h=>h) (Or.inr ⟨by rfl,rfl⟩) ?_ ?_
       rotate_left
       ·simp only [Act.put,List.setIfInBounds_toArray,List.set_cons_zero,List.set_cons_succ,i64_w,i32_w]
        rfl
       refine pure_ (i:=8) (N:=some 41) (v:=undef) (a':=?_) #[true,true,true,true,true,true,true,true,true,false] rfl rfl (any_of HT_.out (by kernel_rfl)) (fun _ _ _ h=>h) (Or.inr ⟨by rfl,rfl⟩) ?_ ?_
       rotate_left
       ·simp only [Act.put,List.setIfInBounds_toArray,List.set_cons_zero,List.set_cons_succ,i64_w,i32_w]
        rfl
       refine pure_ (i:=9) (N:=some 42) (v:=?_) (a':=?_) #[true,true,true,true,true,true,true,true,true,true] rfl rfl (any_of HT_.out (by kernel_rfl)) (fun _ _ _ h=>h) (Or.inl ⟨by rfl,?_⟩) ?_ ?_
       rotate_left
       ·intro w'
        go_simp
        with_reducible rfl
       rotate_left
       ·simp only [Act.put,List.setIfInBounds_toArray,List.set_cons_zero,List.set_cons_succ,i64_w,i32_w]
        rfl
       refine done_ (done_of HT_.out (by kernel_rfl)) ?_
       try go_wp2
       go_ret
       exact ⟨by first|rfl|(simp [errW_none,errW_some] <;> rfl)|(simp [*,errW_none,errW_some] <;> rfl),by repeat (first|(with_reducible first|exact HB.out|apply below_alloc|apply pw_below_drewN|apply below_drew1|refine below_set ?_ GE202.out|refine below_set ?_ GE212.out)|exact HB.out)⟩
     ·rw [if_neg c18] at H
      have c18b0 : (t206 == 0) = false:=beq_eq_false_iff_ne.mpr c18
      have c18b1 : (t206 != 0) = true:=bne_iff_ne.mpr c18
      (first|rw [c18b0]|(simp only [i64_w,i32_w];rw [c18b0])|skip)
      have H':=Aside0.mk H
      clear H
      go_wp2
      go_meet
      case rel=>exact ⟨_,H',⟨by have:=HJ2.out;first|omega|exact Nat.le_refl _⟩,⟨by (with_reducible repeat (first|apply blk_drewN|apply blk_drew|apply blk_alloc));exact BK202.out⟩,⟨by repeat (first|(with_reducible first|exact HB.out|apply below_alloc|apply pw_below_drewN|apply below_drew1|refine below_set ?_ GE202.out)|exact HB.out)⟩⟩
    case rest =>
     clear HC15
     try clear c1
     try clear c2
     try clear p2
     try clear c3
     try clear c5
     try clear c10
     try clear c11
     try clear c13
     try clear c17
     try clear c18
     try clear c18b0
     try clear c18b1
     try clear c20
     try clear c20b0
     try clear c20b1
     try clear c24
     try clear c27
     try clear c39
     try clear c51
     try clear hcz16_0
     try clear hcz16_1
     try clear hcz28_0
     try clear hcz28_1
     try clear hcz40_0
     try clear hcz40_1
     try clear hcz52_0
     try clear hcz52_1
     try clear hfz16_0
     try clear hfz16_1
     try clear hfz28_0
     try clear hfz28_1
     try clear hfz40_0
     try clear hfz40_1
     try clear hfz52_0
     try clear hfz52_1
     obtain ⟨kq,HA,HJ14,BK202,HB⟩:=hcut
     cases kq with
     | zero=>exact absurd HA.out (by simp [bosunlaw17_CkoneBack.j1])
     | succ kj14 =>
      have H:=HA.out
      clear HA
      simp only [bosunlaw17_CkoneBack.j1] at H
      replace H:=Option.bind_eq_some_iff.mp H
      obtain ⟨⟨t222,t223,t226⟩,A560,H⟩:=H
      replace H : (if t226 = 0 then ((ckone_Encode.f kj14 t222 t223).bind fun bt228=>((bosunlaw17_Awake.f kj14).bind fun t230=>(if t230 = true then (if bt228.2 = 0 then (some (bt228.1.toList == a1.toList)) else (some false)) else (some false)))) else ((bosunlaw17_Awake.f kj14).bind fun t231=>(if t231 = true then (if t222 = 0 then (some ((t223.length : Int) == 0)) else (some false)) else (some false)))) = some r:=H
      have A56:=Aside0.mk A560
      clear A560
      by_cases c57 : t226 = 0
      ·rw [if_pos c57] at H
       have c57b0 : (t226 == 0) = true:=beq_iff_eq.mpr c57
       have c57b1 : (t226 != 0) = false:=bne_eq_false_iff_eq.mpr c57
       clear c57
       replace H:=Option.bind_eq_some_iff.mp H
       obtain ⟨⟨t228,t229⟩,A580,H⟩:=H
       replace H : ((bosunlaw17_Awake.f kj14).bind fun t230=>(if t230 = true then (if t229 = 0 then (some (t228.toList == a1.toList)) else (some false)) else (some false))) = some r:=H
       have A58:=Aside0.mk A580
       clear A580
       replace H:=Option.bind_eq_some_iff.mp H
       obtain ⟨t230,A590,H⟩:=H
       replace H : (if t230 = true then (if t229 = 0 then (some (t228.toList == a1.toList)) else (some false)) else (some false)) = some r:=H
       have A59:=Aside0.mk A590
       clear A590
       by_cases c60 : t230 = true
       ·subst c60
        have H1 : (if t229 = 0 then (some (t228.toList == a1.toList)) else (some false)) = some r:=by rw [if_pos rfl] at H;exact H
        clear H
        have H:=H1
        clear H1
        by_cases c61 : t229 = 0
        ·rw [if_pos c61] at H
         have c61b0 : (t229 == 0) = true:=beq_iff_eq.mpr c61
         have c61b1 : (t229 != 0) = false:=bne_eq_false_iff_eq.mpr c61
         clear c61
         obtain rfl:=Option.some.inj H
         go_wp2_with (first|((with_reducible refine gate_callee (f:=20) rfl ?_);refine goesL_ (some 45) rfl rfl Tryd.func20 (by kernel_rfl) rfl #[.string a1] rfl (by (try simp only [List.map_toArray,List.map_cons,List.map_nil]);first|done|rfl|(simp only [List.length_drop,List.length_take];rfl)|(simp (disch:=first|omega|(simp at *;omega)) only [u64_id,i64_id,u8_id];rfl)) ?_;(with_reducible refine (ckone_Decode.calls kj14 a1 t222 t223 t226 _ A56.out).mono ?_);rintro e w62 ⟨v224,rfl,ho0,hb⟩;refine ⟨_,rfl,?_⟩;have n0_:=Aside0.mk (Kd.R_lower ho0 (below_size (by repeat (first|(with_reducible first|exact HB.out|apply below_alloc|apply pw_below_drewN|apply below_drew1|refine below_set ?_ GE202.out)|exact HB.out))));have n1_:=Aside0.mk (blk_below (g:=gb202) (o:=.cells #[.int .u32 a0_0,.slice A0_1 l0_1.length c0_1] 25 (0,0)) (by (with_reducible repeat (first|apply blk_drewN|apply blk_drew|apply blk_alloc));exact BK202.out) hb);have n2_:=Aside0.mk (below_step (by repeat (first|(with_reducible first|exact HB.out|apply below_alloc|apply pw_below_drewN|apply below_drew1|refine below_set ?_ GE202.out)|exact HB.out)) hb);clear BK202;clear HB;have HO225:=n0_;have BK202:=n1_;have HB:=n2_;clear n0_ n1_ n2_;(try clear hb);(try clear hb2);(try clear hk);(try clear hi);(try clear ho0))|((with_reducible refine gate_dst (N:=9) rfl ?_);refine box_event ?hg (N:=9) ?hd (cs:=#[.int .u32 0,.slice none 0 0]) (t:=25) ?hr ?_;(case hd=>rfl);(case hg=>rfl);(case hr=>first|(go_simp;done)|(go_simp;rfl));intro gb227 hg w63 hbox hb;have n0_:=Aside0.mk (Kd.R_below (by (with_reducible repeat (first|apply Kd.R_alloc|apply Kd.R_drewN|apply Kd.R_drew));exact HO225.out) hb);have n1_:=Aside0.mk (blk_below (g:=gb202) (o:=.cells #[.int .u32 a0_0,.slice A0_1 l0_1.length c0_1] 25 (0,0)) (by (with_reducible repeat (first|apply blk_drewN|apply blk_drew|apply blk_alloc));exact BK202.out) hb);have n2_:=Aside0.mk (below_step (by repeat (first|(with_reducible first|exact HB.out|apply below_alloc|apply pw_below_drewN|apply below_drew1|refine below_set ?_ GE202.out)|exact HB.out)) hb);have n3_:=Aside0.mk (hbox);have n4_:=Aside0.mk ((by rw [hg];exact (below_size (by repeat (first|(with_reducible first|exact HB.out|apply below_alloc|apply pw_below_drewN|apply below_drew1|refine below_set ?_ GE202.out)|exact HB.out))) : w.heap.size ≤ gb227));have n5_:=Aside0.mk ((by rw [hg];exact (below_size (by repeat (first|(with_reducible first|exact HB.out|apply below_alloc|apply pw_below_drewN|apply below_drew1|refine below_set ?_ GE202.out)|exact HB.out))) : w.heap.size ≤ gb227));have n6_:=Aside0.mk ((by rw [hg];exact Nat.ne_of_lt (blk_lt (g:=gb202) (o:=.cells #[.int .u32 a0_0,.slice A0_1 l0_1.length c0_1] 25 (0,0)) (by (with_reducible repeat (first|apply blk_drewN|apply blk_drew|apply blk_alloc));exact BK202.out)) : gb202 ≠ gb227));have n7_:=Aside0.mk ((by rw [hg];exact Nat.ne_of_gt (blk_lt (g:=gb202) (o:=.cells #[.int .u32 a0_0,.slice A0_1 l0_1.length c0_1] 25 (0,0)) (by (with_reducible repeat (first|apply blk_drewN|apply blk_drew|apply blk_alloc));exact BK202.out)) : gb227 ≠ gb202));clear HO225;clear BK202;clear HB;have HO225:=n0_;have BK202:=n1_;have HB:=n2_;have BK227:=n3_;have GW227:=n4_;have GE227:=n5_;have NB202_227:=n6_;have NB227_202:=n7_;clear n0_ n1_ n2_ n3_ n4_ n5_ n6_ n7_;clear hb hbox hg;have hnb64:=NB227_202.out;have hnc64:=NB202_227.out;have hcz65_0 : w63.cell? ⟨gb227,0,none⟩ = some (.int .u32 0):=(blk_cell BK227.out 0).trans rfl;have hcz65_1 : w63.cell? ⟨gb227,1,none⟩ = some (.slice none 0 0):=(blk_cell BK227.out 1).trans rfl;have hfz65_0:=blk_frozen BK227.out 0;have hfz65_1:=blk_frozen BK227.out 1;obtain ⟨Ao66,co66,eo66⟩:=Kd.R_slice HO225.out;subst eo66)|((with_reducible refine gate_callee (f:=13) rfl ?_);refine goesL_ (some 64) rfl rfl Tryd.func13 (by kernel_rfl) rfl #[.agg #[.int .u32 t222,.slice Ao66 t223.length co66]] rfl (by (try simp only [List.map_toArray,List.map_cons,List.map_nil]);first|done|rfl|(simp only [List.length_drop,List.length_take];rfl)|(simp (disch:=first|omega|(simp at *;omega)) only [u64_id,i64_id,u8_id];rfl)) ?_;(with_reducible refine (ckone_Encode.calls kj14 t222 _ _ t223 t228 t229 _ ?side1 ?side2 A58.out).mono ?_);(case side1=>refine (Kd.R_reads' (e:=66) (base:=w.heap.size) (ok:=fun k_=>True) (n:=t223.length) (c:=co66) ?_).2.2;exact (by (with_reducible repeat (first|apply Kd.R_alloc|apply Kd.R_drewN|apply Kd.R_drew));exact (Kd.R_mono (Kd.R_far (p:=⟨gb227,1,none⟩) (Kd.R_far (p:=⟨gb227,0,none⟩) (Kd.R_types HO225.out BK227.out (by decide)) (fun _ hk=>hk.2) (.int .u32 t222)) (fun _ hk=>hk.2) (.slice Ao66 t223.length co66)) (fun _ h_=>h_.1))));(case side2=>exact (Kd.R_reads' HO225.out).2.1);rintro e w67 ⟨rfl,hb⟩;refine ⟨_,rfl,?_⟩;have n0_:=Aside0.mk (Kd.R_below (by (with_reducible repeat (first|apply Kd.R_alloc|apply Kd.R_drewN|apply Kd.R_drew));exact (Kd.R_mono (Kd.R_far (p:=⟨gb227,1,none⟩) (Kd.R_far (p:=⟨gb227,0,none⟩) (Kd.R_types HO225.out BK227.out (by decide)) (fun _ hk=>hk.2) (.int .u32 t222)) (fun _ hk=>hk.2) (.slice Ao66 t223.length co66)) (fun _ h_=>h_.1))) hb);have n1_:=Aside0.mk (blk_below (g:=gb202) (o:=.cells #[.int .u32 a0_0,.slice A0_1 l0_1.length c0_1] 25 (0,0)) (by (with_reducible repeat (first|apply blk_drewN|apply blk_drew|apply blk_alloc));refine blk_far ?_ NB202_227.out _;(with_reducible repeat (first|apply blk_drewN|apply blk_drew|apply blk_alloc));refine blk_far ?_ NB202_227.out _;(with_reducible repeat (first|apply blk_drewN|apply blk_drew|apply blk_alloc));exact BK202.out) hb);have n2_:=Aside0.mk (blk_below (g:=gb227) (o:=.cells #[.int .u32 t222,.slice Ao66 t223.length co66] 25 (0,0)) (by (with_reducible repeat (first|apply blk_drewN|apply blk_drew|apply blk_alloc));refine blk_put (cs:=#[.int .u32 t222,.slice none 0 0]) ?_ 1 _ rfl;(with_reducible repeat (first|apply blk_drewN|apply blk_drew|apply blk_alloc));refine blk_put (cs:=#[.int .u32 0,.slice none 0 0]) ?_ 0 _ rfl;(with_reducible repeat (first|apply blk_drewN|apply blk_drew|apply blk_alloc));exact BK227.out) hb);have n3_:=Aside0.mk (below_step (by repeat (first|(with_reducible first|exact HB.out|apply below_alloc|apply pw_below_drewN|apply below_drew1|refine below_set ?_ GE202.out|refine below_set ?_ GE227.out)|exact HB.out)) hb);clear HO225;clear BK202;clear BK227;clear HB;have HO225:=n0_;have BK202:=n1_;have BK227:=n2_;have HB:=n3_;clear n0_ n1_ n2_ n3_;(try clear hb);(try clear hb2);(try clear hk);(try clear hi))|((with_reducible refine gate_callee (f:=10) rfl ?_);refine goesL_ (some 67) rfl rfl Tryd.func10 (by kernel_rfl) rfl #[] rfl (by (try simp only [List.map_toArray,List.map_cons,List.map_nil]);first|done|rfl|(simp only [List.length_drop,List.length_take];rfl)|(simp (disch:=first|omega|(simp at *;omega)) only [u64_id,i64_id,u8_id];rfl)) ?_;(with_reducible refine (bosunlaw17_Awake.calls kj14  true _ A59.out).mono ?_);rintro e w68 ⟨rfl,hb⟩;refine ⟨_,rfl,?_⟩;have n0_:=Aside0.mk (Kd.R_below (by (with_reducible repeat (first|apply Kd.R_alloc|apply Kd.R_drewN|apply Kd.R_drew));exact HO225.out) hb);have n1_:=Aside0.mk (blk_below (g:=gb202) (o:=.cells #[.int .u32 a0_0,.slice A0_1 l0_1.length c0_1] 25 (0,0)) (by (with_reducible repeat (first|apply blk_drewN|apply blk_drew|apply blk_alloc));exact BK202.out) hb);have n2_:=Aside0.mk (blk_below (g:=gb227) (o:=.cells #[.int .u32 t222,.slice Ao66 t223.length co66] 25 (0,0)) (by (with_reducible repeat (first|apply blk_drewN|apply blk_drew|apply blk_alloc));exact BK227.out) hb);have n3_:=Aside0.mk (below_step (by repeat (first|(with_reducible first|exact HB.out|apply below_alloc|apply pw_below_drewN|apply below_drew1|refine below_set ?_ GE202.out|refine below_set ?_ GE227.out)|exact HB.out)) hb);clear HO225;clear BK202;clear BK227;clear HB;have HO225:=n0_;have BK202:=n1_;have BK227:=n2_;have HB:=n3_;clear n0_ n1_ n2_ n3_;(try clear hb);(try clear hb2);(try clear hk);(try clear hi)))
         go_ret
         exact ⟨by first|rfl|(simp [errW_none,errW_some] <;> rfl)|(simp [*,errW_none,errW_some] <;> rfl),by repeat (first|(with_reducible first|exact HB.out|apply below_alloc|apply pw_below_drewN|apply below_drew1|refine below_set ?_ GE202.out|refine below_set ?_ GE227.out)|exact HB.out)⟩
        ·rw [if_neg c61] at H
         have c61b0 : (t229 == 0) = false:=beq_eq_false_iff_ne.mpr c61
         have c61b1 : (t229 != 0) = true:=bne_iff_ne.mpr c61
         obtain rfl:=Option.some.inj H
         go_wp2_with (first|((with_reducible refine gate_callee (f:=20) rfl ?_);refine goesL_ (some 45) rfl rfl Tryd.func20 (by kernel_rfl) rfl #[.string a1] rfl (by (try simp only [List.map_toArray,List.map_cons,List.map_nil]);first|done|rfl|(simp only [List.length_drop,List.length_take];rfl)|(simp (disch:=first|omega|(simp at *;omega)) only [u64_id,i64_id,u8_id];rfl)) ?_;(with_reducible refine (ckone_Decode.calls kj14 a1 t222 t223 t226 _ A56.out).mono ?_);rintro e w69 ⟨v224,rfl,ho0,hb⟩;refine ⟨_,rfl,?_⟩;have n0_:=Aside0.mk (Kd.R_lower ho0 (below_size (by repeat (first|(with_reducible first|exact HB.out|apply below_alloc|apply pw_below_drewN|apply below_drew1|refine below_set ?_ GE202.out)|exact HB.out))));have n1_:=Aside0.mk (blk_below (g:=gb202) (o:=.cells #[.int .u32 a0_0,.slice A0_1 l0_1.length c0_1] 25 (0,0)) (by (with_reducible repeat (first|apply blk_drewN|apply blk_drew|apply blk_alloc));exact BK202.out) hb);have n2_:=Aside0.mk (below_step (by repeat (first|(with_reducible first|exact HB.out|apply below_alloc|apply pw_below_drewN|apply below_drew1|refine below_set ?_ GE202.out)|exact HB.out)) hb);clear BK202;clear HB;have HO225:=n0_;have BK202:=n1_;have HB:=n2_;clear n0_ n1_ n2_;(try clear hb);(try clear hb2);(try clear hk);(try clear hi);(try clear ho0))|((with_reducible refine gate_dst (N:=9) rfl ?_);refine box_event ?hg (N:=9) ?hd (cs:=#[.int .u32 0,.slice none 0 0]) (t:=25) ?hr ?_;(case hd=>rfl);(case hg=>rfl);(case hr=>first|(go_simp;done)|(go_simp;rfl));intro gb227 hg w70 hbox hb;have n0_:=Aside0.mk (Kd.R_below (by (with_reducible repeat (first|apply Kd.R_alloc|apply Kd.R_drewN|apply Kd.R_drew));exact HO225.out) hb);have n1_:=Aside0.mk (blk_below (g:=gb202) (o:=.cells #[.int .u32 a0_0,.slice A0_1 l0_1.length c0_1] 25 (0,0)) (by (with_reducible repeat (first|apply blk_drewN|apply blk_drew|apply blk_alloc));exact BK202.out) hb);have n2_:=Aside0.mk (below_step (by repeat (first|(with_reducible first|exact HB.out|apply below_alloc|apply pw_below_drewN|apply below_drew1|refine below_set ?_ GE202.out)|exact HB.out)) hb);have n3_:=Aside0.mk (hbox);have n4_:=Aside0.mk ((by rw [hg];exact (below_size (by repeat (first|(with_reducible first|exact HB.out|apply below_alloc|apply pw_below_drewN|apply below_drew1|refine below_set ?_ GE202.out)|exact HB.out))) : w.heap.size ≤ gb227));have n5_:=Aside0.mk ((by rw [hg];exact (below_size (by repeat (first|(with_reducible first|exact HB.out|apply below_alloc|apply pw_below_drewN|apply below_drew1|refine below_set ?_ GE202.out)|exact HB.out))) : w.heap.size ≤ gb227));have n6_:=Aside0.mk ((by rw [hg];exact Nat.ne_of_lt (blk_lt (g:=gb202) (o:=.cells #[.int .u32 a0_0,.slice A0_1 l0_1.length c0_1] 25 (0,0)) (by (with_reducible repeat (first|apply blk_drewN|apply blk_drew|apply blk_alloc));exact BK202.out)) : gb202 ≠ gb227));have n7_:=Aside0.mk ((by rw [hg];exact Nat.ne_of_gt (blk_lt (g:=gb202) (o:=.cells #[.int .u32 a0_0,.slice A0_1 l0_1.length c0_1] 25 (0,0)) (by (with_reducible repeat (first|apply blk_drewN|apply blk_drew|apply blk_alloc));exact BK202.out)) : gb227 ≠ gb202));clear HO225;clear BK202;clear HB;have HO225:=n0_;have BK202:=n1_;have HB:=n2_;have BK227:=n3_;have GW227:=n4_;have GE227:=n5_;have NB202_227:=n6_;have NB227_202:=n7_;clear n0_ n1_ n2_ n3_ n4_ n5_ n6_ n7_;clear hb hbox hg;have hnb71:=NB227_202.out;have hnc71:=NB202_227.out;have hcz72_0 : w70.cell? ⟨gb227,0,none⟩ = some (.int .u32 0):=(blk_cell BK227.out 0).trans rfl;have hcz72_1 : w70.cell? ⟨gb227,1,none⟩ = some (.slice none 0 0):=(blk_cell BK227.out 1).trans rfl;have hfz72_0:=blk_frozen BK227.out 0;have hfz72_1:=blk_frozen BK227.out 1;obtain ⟨Ao73,co73,eo73⟩:=Kd.R_slice HO225.out;subst eo73)|((with_reducible refine gate_callee (f:=13) rfl ?_);refine goesL_ (some 64) rfl rfl Tryd.func13 (by kernel_rfl) rfl #[.agg #[.int .u32 t222,.slice Ao73 t223.length co73]] rfl (by (try simp only [List.map_toArray,List.map_cons,List.map_nil]);first|done|rfl|(simp only [List.length_drop,List.length_take];rfl)|(simp (disch:=first|omega|(simp at *;omega)) only [u64_id,i64_id,u8_id];rfl)) ?_;(with_reducible refine (ckone_Encode.calls kj14 t222 _ _ t223 t228 t229 _ ?side1 ?side2 A58.out).mono ?_);(case side1=>refine (Kd.R_reads' (e:=66) (base:=w.heap.size) (ok:=fun k_=>True) (n:=t223.length) (c:=co73) ?_).2.2;exact (by (with_reducible repeat (first|apply Kd.R_alloc|apply Kd.R_drewN|apply Kd.R_drew));exact (Kd.R_mono (Kd.R_far (p:=⟨gb227,1,none⟩) (Kd.R_far (p:=⟨gb227,0,none⟩) (Kd.R_types HO225.out BK227.out (by decide)) (fun _ hk=>hk.2) (.int .u32 t222)) (fun _ hk=>hk.2) (.slice Ao73 t223.length co73)) (fun _ h_=>h_.1))));(case side2=>exact (Kd.R_reads' HO225.out).2.1);rintro e w74 ⟨rfl,hb⟩;refine ⟨_,rfl,?_⟩;have n0_:=Aside0.mk (Kd.R_below (by (with_reducible repeat (first|apply Kd.R_alloc|apply Kd.R_drewN|apply Kd.R_drew));exact (Kd.R_mono (Kd.R_far (p:=⟨gb227,1,none⟩) (Kd.R_far (p:=⟨gb227,0,none⟩) (Kd.R_types HO225.out BK227.out (by decide)) (fun _ hk=>hk.2) (.int .u32 t222)) (fun _ hk=>hk.2) (.slice Ao73 t223.length co73)) (fun _ h_=>h_.1))) hb);have n1_:=Aside0.mk (blk_below (g:=gb202) (o:=.cells #[.int .u32 a0_0,.slice A0_1 l0_1.length c0_1] 25 (0,0)) (by (with_reducible repeat (first|apply blk_drewN|apply blk_drew|apply blk_alloc));refine blk_far ?_ NB202_227.out _;(with_reducible repeat (first|apply blk_drewN|apply blk_drew|apply blk_alloc));refine blk_far ?_ NB202_227.out _;(with_reducible repeat (first|apply blk_drewN|apply blk_drew|apply blk_alloc));exact BK202.out) hb);have n2_:=Aside0.mk (blk_below (g:=gb227) (o:=.cells #[.int .u32 t222,.slice Ao73 t223.length co73] 25 (0,0)) (by (with_reducible repeat (first|apply blk_drewN|apply blk_drew|apply blk_alloc));refine blk_put (cs:=#[.int .u32 t222,.slice none 0 0]) ?_ 1 _ rfl;(with_reducible repeat (first|apply blk_drewN|apply blk_drew|apply blk_alloc));refine blk_put (cs:=#[.int .u32 0,.slice none 0 0]) ?_ 0 _ rfl;(with_reducible repeat (first|apply blk_drewN|apply blk_drew|apply blk_alloc));exact BK227.out) hb);have n3_:=Aside0.mk (below_step (by repeat (first|(with_reducible first|exact HB.out|apply below_alloc|apply pw_below_drewN|apply below_drew1|refine below_set ?_ GE202.out|refine below_set ?_ GE227.out)|exact HB.out)) hb);clear HO225;clear BK202;clear BK227;clear HB;have HO225:=n0_;have BK202:=n1_;have BK227:=n2_;have HB:=n3_;clear n0_ n1_ n2_ n3_;(try clear hb);(try clear hb2);(try clear hk);(try clear hi))|((with_reducible refine gate_callee (f:=10) rfl ?_);refine goesL_ (some 67) rfl rfl Tryd.func10 (by kernel_rfl) rfl #[] rfl (by (try simp only [List.map_toArray,List.map_cons,List.map_nil]);first|done|rfl|(simp only [List.length_drop,List.length_take];rfl)|(simp (disch:=first|omega|(simp at *;omega)) only [u64_id,i64_id,u8_id];rfl)) ?_;(with_reducible refine (bosunlaw17_Awake.calls kj14  true _ A59.out).mono ?_);rintro e w75 ⟨rfl,hb⟩;refine ⟨_,rfl,?_⟩;have n0_:=Aside0.mk (Kd.R_below (by (with_reducible repeat (first|apply Kd.R_alloc|apply Kd.R_drewN|apply Kd.R_drew));exact HO225.out) hb);have n1_:=Aside0.mk (blk_below (g:=gb202) (o:=.cells #[.int .u32 a0_0,.slice A0_1 l0_1.length c0_1] 25 (0,0)) (by (with_reducible repeat (first|apply blk_drewN|apply blk_drew|apply blk_alloc));exact BK202.out) hb);have n2_:=Aside0.mk (blk_below (g:=gb227) (o:=.cells #[.int .u32 t222,.slice Ao73 t223.length co73] 25 (0,0)) (by (with_reducible repeat (first|apply blk_drewN|apply blk_drew|apply blk_alloc));exact BK227.out) hb);have n3_:=Aside0.mk (below_step (by repeat (first|(with_reducible first|exact HB.out|apply below_alloc|apply pw_below_drewN|apply below_drew1|refine below_set ?_ GE202.out|refine below_set ?_ GE227.out)|exact HB.out)) hb);clear HO225;clear BK202;clear BK227;clear HB;have HO225:=n0_;have BK202:=n1_;have BK227:=n2_;have HB:=n3_;clear n0_ n1_ n2_ n3_;(try clear hb);(try clear hb2);(try clear hk);(try clear hi)))
         go_ret
         exact ⟨by first|rfl|(simp [errW_none,errW_some] <;> rfl)|(simp [*,errW_none,errW_some] <;> rfl),by repeat (first|(with_reducible first|exact HB.out|apply below_alloc|apply pw_below_drewN|apply below_drew1|refine below_set ?_ GE202.out|refine below_set ?_ GE227.out)|exact HB.out)⟩
       ·replace c60:=Bool.eq_false_iff.mpr c60
        subst c60
        have H1 : (some false) = some r:=by rw [if_neg (show ¬ (false = true) by decide)] at H;exact H
        clear H
        have H:=H1
        clear H1
        obtain rfl:=Option.some.inj H
        go_wp2_with (first|((with_reducible refine gate_callee (f:=20) rfl ?_);refine goesL_ (some 45) rfl rfl Tryd.func20 (by kernel_rfl) rfl #[.string a1] rfl (by (try simp only [List.map_toArray,List.map_cons,List.map_nil]);first|done|rfl|(simp only [List.length_drop,List.length_take];rfl)|(simp (disch:=first|omega|(simp at *;omega)) only [u64_id,i64_id,u8_id];rfl)) ?_;(with_reducible refine (ckone_Decode.calls kj14 a1 t222 t223 t226 _ A56.out).mono ?_);rintro e w76 ⟨v224,rfl,ho0,hb⟩;refine ⟨_,rfl,?_⟩;have n0_:=Aside0.mk (Kd.R_lower ho0 (below_size (by repeat (first|(with_reducible first|exact HB.out|apply below_alloc|apply pw_below_drewN|apply below_drew1|refine below_set ?_ GE202.out)|exact HB.out))));have n1_:=Aside0.mk (blk_below (g:=gb202) (o:=.cells #[.int .u32 a0_0,.slice A0_1 l0_1.length c0_1] 25 (0,0)) (by (with_reducible repeat (first|apply blk_drewN|apply blk_drew|apply blk_alloc));exact BK202.out) hb);have n2_:=Aside0.mk (below_step (by repeat (first|(with_reducible first|exact HB.out|apply below_alloc|apply pw_below_drewN|apply below_drew1|refine below_set ?_ GE202.out)|exact HB.out)) hb);clear BK202;clear HB;have HO225:=n0_;have BK202:=n1_;have HB:=n2_;clear n0_ n1_ n2_;(try clear hb);(try clear hb2);(try clear hk);(try clear hi);(try clear ho0))|((with_reducible refine gate_dst (N:=9) rfl ?_);refine box_event ?hg (N:=9) ?hd (cs:=#[.int .u32 0,.slice none 0 0]) (t:=25) ?hr ?_;(case hd=>rfl);(case hg=>rfl);(case hr=>first|(go_simp;done)|(go_simp;rfl));intro gb227 hg w77 hbox hb;have n0_:=Aside0.mk (Kd.R_below (by (with_reducible repeat (first|apply Kd.R_alloc|apply Kd.R_drewN|apply Kd.R_drew));exact HO225.out) hb);have n1_:=Aside0.mk (blk_below (g:=gb202) (o:=.cells #[.int .u32 a0_0,.slice A0_1 l0_1.length c0_1] 25 (0,0)) (by (with_reducible repeat (first|apply blk_drewN|apply blk_drew|apply blk_alloc));exact BK202.out) hb);have n2_:=Aside0.mk (below_step (by repeat (first|(with_reducible first|exact HB.out|apply below_alloc|apply pw_below_drewN|apply below_drew1|refine below_set ?_ GE202.out)|exact HB.out)) hb);have n3_:=Aside0.mk (hbox);have n4_:=Aside0.mk ((by rw [hg];exact (below_size (by repeat (first|(with_reducible first|exact HB.out|apply below_alloc|apply pw_below_drewN|apply below_drew1|refine below_set ?_ GE202.out)|exact HB.out))) : w.heap.size ≤ gb227));have n5_:=Aside0.mk ((by rw [hg];exact (below_size (by repeat (first|(with_reducible first|exact HB.out|apply below_alloc|apply pw_below_drewN|apply below_drew1|refine below_set ?_ GE202.out)|exact HB.out))) : w.heap.size ≤ gb227));have n6_:=Aside0.mk ((by rw [hg];exact Nat.ne_of_lt (blk_lt (g:=gb202) (o:=.cells #[.int .u32 a0_0,.slice A0_1 l0_1.length c0_1] 25 (0,0)) (by (with_reducible repeat (first|apply blk_drewN|apply blk_drew|apply blk_alloc));exact BK202.out)) : gb202 ≠ gb227));have n7_:=Aside0.mk ((by rw [hg];exact Nat.ne_of_gt (blk_lt (g:=gb202) (o:=.cells #[.int .u32 a0_0,.slice A0_1 l0_1.length c0_1] 25 (0,0)) (by (with_reducible repeat (first|apply blk_drewN|apply blk_drew|apply blk_alloc));exact BK202.out)) : gb227 ≠ gb202));clear HO225;clear BK202;clear HB;have HO225:=n0_;have BK202:=n1_;have HB:=n2_;have BK227:=n3_;have GW227:=n4_;have GE227:=n5_;have NB202_227:=n6_;have NB227_202:=n7_;clear n0_ n1_ n2_ n3_ n4_ n5_ n6_ n7_;clear hb hbox hg;have hnb78:=NB227_202.out;have hnc78:=NB202_227.out;have hcz79_0 : w77.cell? ⟨gb227,0,none⟩ = some (.int .u32 0):=(blk_cell BK227.out 0).trans rfl;have hcz79_1 : w77.cell? ⟨gb227,1,none⟩ = some (.slice none 0 0):=(blk_cell BK227.out 1).trans rfl;have hfz79_0:=blk_frozen BK227.out 0;have hfz79_1:=blk_frozen BK227.out 1;obtain ⟨Ao80,co80,eo80⟩:=Kd.R_slice HO225.out;subst eo80)|((with_reducible refine gate_callee (f:=13) rfl ?_);refine goesL_ (some 64) rfl rfl Tryd.func13 (by kernel_rfl) rfl #[.agg #[.int .u32 t222,.slice Ao80 t223.length co80]] rfl (by (try simp only [List.map_toArray,List.map_cons,List.map_nil]);first|done|rfl|(simp only [List.length_drop,List.length_take];rfl)|(simp (disch:=first|omega|(simp at *;omega)) only [u64_id,i64_id,u8_id];rfl)) ?_;(with_reducible refine (ckone_Encode.calls kj14 t222 _ _ t223 t228 t229 _ ?side1 ?side2 A58.out).mono ?_);(case side1=>refine (Kd.R_reads' (e:=66) (base:=w.heap.size) (ok:=fun k_=>True) (n:=t223.length) (c:=co80) ?_).2.2;exact (by (with_reducible repeat (first|apply Kd.R_alloc|apply Kd.R_drewN|apply Kd.R_drew));exact (Kd.R_mono (Kd.R_far (p:=⟨gb227,1,none⟩) (Kd.R_far (p:=⟨gb227,0,none⟩) (Kd.R_types HO225.out BK227.out (by decide)) (fun _ hk=>hk.2) (.int .u32 t222)) (fun _ hk=>hk.2) (.slice Ao80 t223.length co80)) (fun _ h_=>h_.1))));(case side2=>exact (Kd.R_reads' HO225.out).2.1);rintro e w81 ⟨rfl,hb⟩;refine ⟨_,rfl,?_⟩;have n0_:=Aside0.mk (Kd.R_below (by (with_reducible repeat (first|apply Kd.R_alloc|apply Kd.R_drewN|apply Kd.R_drew));exact (Kd.R_mono (Kd.R_far (p:=⟨gb227,1,none⟩) (Kd.R_far (p:=⟨gb227,0,none⟩) (Kd.R_types HO225.out BK227.out (by decide)) (fun _ hk=>hk.2) (.int .u32 t222)) (fun _ hk=>hk.2) (.slice Ao80 t223.length co80)) (fun _ h_=>h_.1))) hb);have n1_:=Aside0.mk (blk_below (g:=gb202) (o:=.cells #[.int .u32 a0_0,.slice A0_1 l0_1.length c0_1] 25 (0,0)) (by (with_reducible repeat (first|apply blk_drewN|apply blk_drew|apply blk_alloc));refine blk_far ?_ NB202_227.out _;(with_reducible repeat (first|apply blk_drewN|apply blk_drew|apply blk_alloc));refine blk_far ?_ NB202_227.out _;(with_reducible repeat (first|apply blk_drewN|apply blk_drew|apply blk_alloc));exact BK202.out) hb);have n2_:=Aside0.mk (blk_below (g:=gb227) (o:=.cells #[.int .u32 t222,.slice Ao80 t223.length co80] 25 (0,0)) (by (with_reducible repeat (first|apply blk_drewN|apply blk_drew|apply blk_alloc));refine blk_put (cs:=#[.int .u32 t222,.slice none 0 0]) ?_ 1 _ rfl;(with_reducible repeat (first|apply blk_drewN|apply blk_drew|apply blk_alloc));refine blk_put (cs:=#[.int .u32 0,.slice none 0 0]) ?_ 0 _ rfl;(with_reducible repeat (first|apply blk_drewN|apply blk_drew|apply blk_alloc));exact BK227.out) hb);have n3_:=Aside0.mk (below_step (by repeat (first|(with_reducible first|exact HB.out|apply below_alloc|apply pw_below_drewN|apply below_drew1|refine below_set ?_ GE202.out|refine below_set ?_ GE227.out)|exact HB.out)) hb);clear HO225;clear BK202;clear BK227;clear HB;have HO225:=n0_;have BK202:=n1_;have BK227:=n2_;have HB:=n3_;clear n0_ n1_ n2_ n3_;(try clear hb);(try clear hb2);(try clear hk);(try clear hi))|((with_reducible refine gate_callee (f:=10) rfl ?_);refine goesL_ (some 67) rfl rfl Tryd.func10 (by kernel_rfl) rfl #[] rfl (by (try simp only [List.map_toArray,List.map_cons,List.map_nil]);first|done|rfl|(simp only [List.length_drop,List.length_take];rfl)|(simp (disch:=first|omega|(simp at *;omega)) only [u64_id,i64_id,u8_id];rfl)) ?_;(with_reducible refine (bosunlaw17_Awake.calls kj14  false _ A59.out).mono ?_);rintro e w82 ⟨rfl,hb⟩;refine ⟨_,rfl,?_⟩;have n0_:=Aside0.mk (Kd.R_below (by (with_reducible repeat (first|apply Kd.R_alloc|apply Kd.R_drewN|apply Kd.R_drew));exact HO225.out) hb);have n1_:=Aside0.mk (blk_below (g:=gb202) (o:=.cells #[.int .u32 a0_0,.slice A0_1 l0_1.length c0_1] 25 (0,0)) (by (with_reducible repeat (first|apply blk_drewN|apply blk_drew|apply blk_alloc));exact BK202.out) hb);have n2_:=Aside0.mk (blk_below (g:=gb227) (o:=.cells #[.int .u32 t222,.slice Ao80 t223.length co80] 25 (0,0)) (by (with_reducible repeat (first|apply blk_drewN|apply blk_drew|apply blk_alloc));exact BK227.out) hb);have n3_:=Aside0.mk (below_step (by repeat (first|(with_reducible first|exact HB.out|apply below_alloc|apply pw_below_drewN|apply below_drew1|refine below_set ?_ GE202.out|refine below_set ?_ GE227.out)|exact HB.out)) hb);clear HO225;clear BK202;clear BK227;clear HB;have HO225:=n0_;have BK202:=n1_;have BK227:=n2_;have HB:=n3_;clear n0_ n1_ n2_ n3_;(try clear hb);(try clear hb2);(try clear hk);(try clear hi)))
        go_ret
        exact ⟨by first|rfl|(simp [errW_none,errW_some] <;> rfl)|(simp [*,errW_none,errW_some] <;> rfl),by repeat (first|(with_reducible first|exact HB.out|apply below_alloc|apply pw_below_drewN|apply below_drew1|refine below_set ?_ GE202.out|refine below_set ?_ GE227.out)|exact HB.out)⟩
      ·rw [if_neg c57] at H
       have c57b0 : (t226 == 0) = false:=beq_eq_false_iff_ne.mpr c57
       have c57b1 : (t226 != 0) = true:=bne_iff_ne.mpr c57
       replace H:=Option.bind_eq_some_iff.mp H
       obtain ⟨t231,A830,H⟩:=H
       replace H : (if t231 = true then (if t222 = 0 then (some ((t223.length : Int) == 0)) else (some false)) else (some false)) = some r:=H
       have A83:=Aside0.mk A830
       clear A830
       by_cases c84 : t231 = true
       ·subst c84
        have H1 : (if t222 = 0 then (some ((t223.length : Int) == 0)) else (some false)) = some r:=by rw [if_pos rfl] at H;exact H
        clear H
        have H:=H1
        clear H1
        by_cases c85 : t222 = 0
        ·rw [if_pos c85] at H
         have c85b0 : (t222 == 0) = true:=beq_iff_eq.mpr c85
         have c85b1 : (t222 != 0) = false:=bne_eq_false_iff_eq.mpr c85
         clear c85
         obtain rfl:=Option.some.inj H
         go_wp2_with (first|((with_reducible refine gate_callee (f:=20) rfl ?_);refine goesL_ (some 45) rfl rfl Tryd.func20 (by kernel_rfl) rfl #[.string a1] rfl (by (try simp only [List.map_toArray,List.map_cons,List.map_nil]);first|done|rfl|(simp only [List.length_drop,List.length_take];rfl)|(simp (disch:=first|omega|(simp at *;omega)) only [u64_id,i64_id,u8_id];rfl)) ?_;(with_reducible refine (ckone_Decode.calls kj14 a1 t222 t223 t226 _ A56.out).mono ?_);rintro e w86 ⟨v224,rfl,ho0,hb⟩;refine ⟨_,rfl,?_⟩;have n0_:=Aside0.mk (Kd.R_lower ho0 (below_size (by repeat (first|(with_reducible first|exact HB.out|apply below_alloc|apply pw_below_drewN|apply below_drew1|refine below_set ?_ GE202.out)|exact HB.out))));have n1_:=Aside0.mk (blk_below (g:=gb202) (o:=.cells #[.int .u32 a0_0,.slice A0_1 l0_1.length c0_1] 25 (0,0)) (by (with_reducible repeat (first|apply blk_drewN|apply blk_drew|apply blk_alloc));exact BK202.out) hb);have n2_:=Aside0.mk (below_step (by repeat (first|(with_reducible first|exact HB.out|apply below_alloc|apply pw_below_drewN|apply below_drew1|refine below_set ?_ GE202.out)|exact HB.out)) hb);clear BK202;clear HB;have HO225:=n0_;have BK202:=n1_;have HB:=n2_;clear n0_ n1_ n2_;(try clear hb);(try clear hb2);(try clear hk);(try clear hi);(try clear ho0))|((with_reducible refine gate_dst (N:=9) rfl ?_);refine box_event ?hg (N:=9) ?hd (cs:=#[.int .u32 0,.slice none 0 0]) (t:=25) ?hr ?_;(case hd=>rfl);(case hg=>rfl);(case hr=>first|(go_simp;done)|(go_simp;rfl));intro gb227 hg w87 hbox hb;have n0_:=Aside0.mk (Kd.R_below (by (with_reducible repeat (first|apply Kd.R_alloc|apply Kd.R_drewN|apply Kd.R_drew));exact HO225.out) hb);have n1_:=Aside0.mk (blk_below (g:=gb202) (o:=.cells #[.int .u32 a0_0,.slice A0_1 l0_1.length c0_1] 25 (0,0)) (by (with_reducible repeat (first|apply blk_drewN|apply blk_drew|apply blk_alloc));exact BK202.out) hb);have n2_:=Aside0.mk (below_step (by repeat (first|(with_reducible first|exact HB.out|apply below_alloc|apply pw_below_drewN|apply below_drew1|refine below_set ?_ GE202.out)|exact HB.out)) hb);have n3_:=Aside0.mk (hbox);have n4_:=Aside0.mk ((by rw [hg];exact (below_size (by repeat (first|(with_reducible first|exact HB.out|apply below_alloc|apply pw_below_drewN|apply below_drew1|refine below_set ?_ GE202.out)|exact HB.out))) : w.heap.size ≤ gb227));have n5_:=Aside0.mk ((by rw [hg];exact (below_size (by repeat (first|(with_reducible first|exact HB.out|apply below_alloc|apply pw_below_drewN|apply below_drew1|refine below_set ?_ GE202.out)|exact HB.out))) : w.heap.size ≤ gb227));have n6_:=Aside0.mk ((by rw [hg];exact Nat.ne_of_lt (blk_lt (g:=gb202) (o:=.cells #[.int .u32 a0_0,.slice A0_1 l0_1.length c0_1] 25 (0,0)) (by (with_reducible repeat (first|apply blk_drewN|apply blk_drew|apply blk_alloc));exact BK202.out)) : gb202 ≠ gb227));have n7_:=Aside0.mk ((by rw [hg];exact Nat.ne_of_gt (blk_lt (g:=gb202) (o:=.cells #[.int .u32 a0_0,.slice A0_1 l0_1.length c0_1] 25 (0,0)) (by (with_reducible repeat (first|apply blk_drewN|apply blk_drew|apply blk_alloc));exact BK202.out)) : gb227 ≠ gb202));clear HO225;clear BK202;clear HB;have HO225:=n0_;have BK202:=n1_;have HB:=n2_;have BK227:=n3_;have GW227:=n4_;have GE227:=n5_;have NB202_227:=n6_;have NB227_202:=n7_;clear n0_ n1_ n2_ n3_ n4_ n5_ n6_ n7_;clear hb hbox hg;have hnb88:=NB227_202.out;have hnc88:=NB202_227.out;have hcz89_0 : w87.cell? ⟨gb227,0,none⟩ = some (.int .u32 0):=(blk_cell BK227.out 0).trans rfl;have hcz89_1 : w87.cell? ⟨gb227,1,none⟩ = some (.slice none 0 0):=(blk_cell BK227.out 1).trans rfl;have hfz89_0:=blk_frozen BK227.out 0;have hfz89_1:=blk_frozen BK227.out 1;obtain ⟨Ao90,co90,eo90⟩:=Kd.R_slice HO225.out;subst eo90)|((with_reducible refine gate_callee (f:=10) rfl ?_);refine goesL_ (some 50) rfl rfl Tryd.func10 (by kernel_rfl) rfl #[] rfl (by (try simp only [List.map_toArray,List.map_cons,List.map_nil]);first|done|rfl|(simp only [List.length_drop,List.length_take];rfl)|(simp (disch:=first|omega|(simp at *;omega)) only [u64_id,i64_id,u8_id];rfl)) ?_;(with_reducible refine (bosunlaw17_Awake.calls kj14  true _ A83.out).mono ?_);rintro e w91 ⟨rfl,hb⟩;refine ⟨_,rfl,?_⟩;have n0_:=Aside0.mk (Kd.R_below (by (with_reducible repeat (first|apply Kd.R_alloc|apply Kd.R_drewN|apply Kd.R_drew));exact (Kd.R_mono (Kd.R_far (p:=⟨gb227,1,none⟩) (Kd.R_far (p:=⟨gb227,0,none⟩) (Kd.R_types HO225.out BK227.out (by decide)) (fun _ hk=>hk.2) (.int .u32 t222)) (fun _ hk=>hk.2) (.slice Ao90 t223.length co90)) (fun _ h_=>h_.1))) hb);have n1_:=Aside0.mk (blk_below (g:=gb202) (o:=.cells #[.int .u32 a0_0,.slice A0_1 l0_1.length c0_1] 25 (0,0)) (by (with_reducible repeat (first|apply blk_drewN|apply blk_drew|apply blk_alloc));refine blk_far ?_ NB202_227.out _;(with_reducible repeat (first|apply blk_drewN|apply blk_drew|apply blk_alloc));refine blk_far ?_ NB202_227.out _;(with_reducible repeat (first|apply blk_drewN|apply blk_drew|apply blk_alloc));exact BK202.out) hb);have n2_:=Aside0.mk (blk_below (g:=gb227) (o:=.cells #[.int .u32 t222,.slice Ao90 t223.length co90] 25 (0,0)) (by (with_reducible repeat (first|apply blk_drewN|apply blk_drew|apply blk_alloc));refine blk_put (cs:=#[.int .u32 t222,.slice none 0 0]) ?_ 1 _ rfl;(with_reducible repeat (first|apply blk_drewN|apply blk_drew|apply blk_alloc));refine blk_put (cs:=#[.int .u32 0,.slice none 0 0]) ?_ 0 _ rfl;(with_reducible repeat (first|apply blk_drewN|apply blk_drew|apply blk_alloc));exact BK227.out) hb);have n3_:=Aside0.mk (below_step (by repeat (first|(with_reducible first|exact HB.out|apply below_alloc|apply pw_below_drewN|apply below_drew1|refine below_set ?_ GE202.out|refine below_set ?_ GE227.out)|exact HB.out)) hb);clear HO225;clear BK202;clear BK227;clear HB;have HO225:=n0_;have BK202:=n1_;have BK227:=n2_;have HB:=n3_;clear n0_ n1_ n2_ n3_;(try clear hb);(try clear hb2);(try clear hk);(try clear hi);have hcz92_0 : w91.cell? ⟨gb227,0,none⟩ = some (.int .u32 t222):=(blk_cell BK227.out 0).trans rfl;have hcz92_1 : w91.cell? ⟨gb227,1,none⟩ = some (.slice Ao90 t223.length co90):=(blk_cell BK227.out 1).trans rfl;have hfz92_0:=blk_frozen BK227.out 0;have hfz92_1:=blk_frozen BK227.out 1))
         go_ret
         exact ⟨by first|rfl|(simp [errW_none,errW_some] <;> rfl)|(simp [*,errW_none,errW_some] <;> rfl),by repeat (first|(with_reducible first|exact HB.out|apply below_alloc|apply pw_below_drewN|apply below_drew1|refine below_set ?_ GE202.out|refine below_set ?_ GE227.out)|exact HB.out)⟩
        ·rw [if_neg c85] at H
         have c85b0 : (t222 == 0) = false:=beq_eq_false_iff_ne.mpr c85
         have c85b1 : (t222 != 0) = true:=bne_iff_ne.mpr c85
         obtain rfl:=Option.some.inj H
         go_wp2_with (first|((with_reducible refine gate_callee (f:=20) rfl ?_);refine goesL_ (some 45) rfl rfl Tryd.func20 (by kernel_rfl) rfl #[.string a1] rfl (by (try simp only [List.map_toArray,List.map_cons,List.map_nil]);first|done|rfl|(simp only [List.length_drop,List.length_take];rfl)|(simp (disch:=first|omega|(simp at *;omega)) only [u64_id,i64_id,u8_id];rfl)) ?_;(with_reducible refine (ckone_Decode.calls kj14 a1 t222 t223 t226 _ A56.out).mono ?_);rintro e w93 ⟨v224,rfl,ho0,hb⟩;refine ⟨_,rfl,?_⟩;have n0_:=Aside0.mk (Kd.R_lower ho0 (below_size (by repeat (first|(with_reducible first|exact HB.out|apply below_alloc|apply pw_below_drewN|apply below_drew1|refine below_set ?_ GE202.out)|exact HB.out))));have n1_:=Aside0.mk (blk_below (g:=gb202) (o:=.cells #[.int .u32 a0_0,.slice A0_1 l0_1.length c0_1] 25 (0,0)) (by (with_reducible repeat (first|apply blk_drewN|apply blk_drew|apply blk_alloc));exact BK202.out) hb);have n2_:=Aside0.mk (below_step (by repeat (first|(with_reducible first|exact HB.out|apply below_alloc|apply pw_below_drewN|apply below_drew1|refine below_set ?_ GE202.out)|exact HB.out)) hb);clear BK202;clear HB;have HO225:=n0_;have BK202:=n1_;have HB:=n2_;clear n0_ n1_ n2_;(try clear hb);(try clear hb2);(try clear hk);(try clear hi);(try clear ho0))|((with_reducible refine gate_dst (N:=9) rfl ?_);refine box_event ?hg (N:=9) ?hd (cs:=#[.int .u32 0,.slice none 0 0]) (t:=25) ?hr ?_;(case hd=>rfl);(case hg=>rfl);(case hr=>first|(go_simp;done)|(go_simp;rfl));intro gb227 hg w94 hbox hb;have n0_:=Aside0.mk (Kd.R_below (by (with_reducible repeat (first|apply Kd.R_alloc|apply Kd.R_drewN|apply Kd.R_drew));exact HO225.out) hb);have n1_:=Aside0.mk (blk_below (g:=gb202) (o:=.cells #[.int .u32 a0_0,.slice A0_1 l0_1.length c0_1] 25 (0,0)) (by (with_reducible repeat (first|apply blk_drewN|apply blk_drew|apply blk_alloc));exact BK202.out) hb);have n2_:=Aside0.mk (below_step (by repeat (first|(with_reducible first|exact HB.out|apply below_alloc|apply pw_below_drewN|apply below_drew1|refine below_set ?_ GE202.out)|exact HB.out)) hb);have n3_:=Aside0.mk (hbox);have n4_:=Aside0.mk ((by rw [hg];exact (below_size (by repeat (first|(with_reducible first|exact HB.out|apply below_alloc|apply pw_below_drewN|apply below_drew1|refine below_set ?_ GE202.out)|exact HB.out))) : w.heap.size ≤ gb227));have n5_:=Aside0.mk ((by rw [hg];exact (below_size (by repeat (first|(with_reducible first|exact HB.out|apply below_alloc|apply pw_below_drewN|apply below_drew1|refine below_set ?_ GE202.out)|exact HB.out))) : w.heap.size ≤ gb227));have n6_:=Aside0.mk ((by rw [hg];exact Nat.ne_of_lt (blk_lt (g:=gb202) (o:=.cells #[.int .u32 a0_0,.slice A0_1 l0_1.length c0_1] 25 (0,0)) (by (with_reducible repeat (first|apply blk_drewN|apply blk_drew|apply blk_alloc));exact BK202.out)) : gb202 ≠ gb227));have n7_:=Aside0.mk ((by rw [hg];exact Nat.ne_of_gt (blk_lt (g:=gb202) (o:=.cells #[.int .u32 a0_0,.slice A0_1 l0_1.length c0_1] 25 (0,0)) (by (with_reducible repeat (first|apply blk_drewN|apply blk_drew|apply blk_alloc));exact BK202.out)) : gb227 ≠ gb202));clear HO225;clear BK202;clear HB;have HO225:=n0_;have BK202:=n1_;have HB:=n2_;have BK227:=n3_;have GW227:=n4_;have GE227:=n5_;have NB202_227:=n6_;have NB227_202:=n7_;clear n0_ n1_ n2_ n3_ n4_ n5_ n6_ n7_;clear hb hbox hg;have hnb95:=NB227_202.out;have hnc95:=NB202_227.out;have hcz96_0 : w94.cell? ⟨gb227,0,none⟩ = some (.int .u32 0):=(blk_cell BK227.out 0).trans rfl;have hcz96_1 : w94.cell? ⟨gb227,1,none⟩ = some (.slice none 0 0):=(blk_cell BK227.out 1).trans rfl;have hfz96_0:=blk_frozen BK227.out 0;have hfz96_1:=blk_frozen BK227.out 1;obtain ⟨Ao97,co97,eo97⟩:=Kd.R_slice HO225.out;subst eo97)|((with_reducible refine gate_callee (f:=10) rfl ?_);refine goesL_ (some 50) rfl rfl Tryd.func10 (by kernel_rfl) rfl #[] rfl (by (try simp only [List.map_toArray,List.map_cons,List.map_nil]);first|done|rfl|(simp only [List.length_drop,List.length_take];rfl)|(simp (disch:=first|omega|(simp at *;omega)) only [u64_id,i64_id,u8_id];rfl)) ?_;(with_reducible refine (bosunlaw17_Awake.calls kj14  true _ A83.out).mono ?_);rintro e w98 ⟨rfl,hb⟩;refine ⟨_,rfl,?_⟩;have n0_:=Aside0.mk (Kd.R_below (by (with_reducible repeat (first|apply Kd.R_alloc|apply Kd.R_drewN|apply Kd.R_drew));exact (Kd.R_mono (Kd.R_far (p:=⟨gb227,1,none⟩) (Kd.R_far (p:=⟨gb227,0,none⟩) (Kd.R_types HO225.out BK227.out (by decide)) (fun _ hk=>hk.2) (.int .u32 t222)) (fun _ hk=>hk.2) (.slice Ao97 t223.length co97)) (fun _ h_=>h_.1))) hb);have n1_:=Aside0.mk (blk_below (g:=gb202) (o:=.cells #[.int .u32 a0_0,.slice A0_1 l0_1.length c0_1] 25 (0,0)) (by (with_reducible repeat (first|apply blk_drewN|apply blk_drew|apply blk_alloc));refine blk_far ?_ NB202_227.out _;(with_reducible repeat (first|apply blk_drewN|apply blk_drew|apply blk_alloc));refine blk_far ?_ NB202_227.out _;(with_reducible repeat (first|apply blk_drewN|apply blk_drew|apply blk_alloc));exact BK202.out) hb);have n2_:=Aside0.mk (blk_below (g:=gb227) (o:=.cells #[.int .u32 t222,.slice Ao97 t223.length co97] 25 (0,0)) (by (with_reducible repeat (first|apply blk_drewN|apply blk_drew|apply blk_alloc));refine blk_put (cs:=#[.int .u32 t222,.slice none 0 0]) ?_ 1 _ rfl;(with_reducible repeat (first|apply blk_drewN|apply blk_drew|apply blk_alloc));refine blk_put (cs:=#[.int .u32 0,.slice none 0 0]) ?_ 0 _ rfl;(with_reducible repeat (first|apply blk_drewN|apply blk_drew|apply blk_alloc));exact BK227.out) hb);have n3_:=Aside0.mk (below_step (by repeat (first|(with_reducible first|exact HB.out|apply below_alloc|apply pw_below_drewN|apply below_drew1|refine below_set ?_ GE202.out|refine below_set ?_ GE227.out)|exact HB.out)) hb);clear HO225;clear BK202;clear BK227;clear HB;have HO225:=n0_;have BK202:=n1_;have BK227:=n2_;have HB:=n3_;clear n0_ n1_ n2_ n3_;(try clear hb);(try clear hb2);(try clear hk);(try clear hi);have hcz99_0 : w98.cell? ⟨gb227,0,none⟩ = some (.int .u32 t222):=(blk_cell BK227.out 0).trans rfl;have hcz99_1 : w98.cell? ⟨gb227,1,none⟩ = some (.slice Ao97 t223.length co97):=(blk_cell BK227.out 1).trans rfl;have hfz99_0:=blk_frozen BK227.out 0;have hfz99_1:=blk_frozen BK227.out 1))
         go_ret
         exact ⟨by first|rfl|(simp [errW_none,errW_some] <;> rfl)|(simp [*,errW_none,errW_some] <;> rfl),by repeat (first|(with_reducible first|exact HB.out|apply below_alloc|apply pw_below_drewN|apply below_drew1|refine below_set ?_ GE202.out|refine below_set ?_ GE227.out)|exact HB.out)⟩
       ·replace c84:=Bool.eq_false_iff.mpr c84
        subst c84
        have H1 : (some false) = some r:=by rw [if_neg (show ¬ (false = true) by decide)] at H;exact H
        clear H
        have H:=H1
        clear H1
        obtain rfl:=Option.some.inj H
        go_wp2_with (first|((with_reducible refine gate_callee (f:=20) rfl ?_);refine goesL_ (some 45) rfl rfl Tryd.func20 (by kernel_rfl) rfl #[.string a1] rfl (by (try simp only [List.map_toArray,List.map_cons,List.map_nil]);first|done|rfl|(simp only [List.length_drop,List.length_take];rfl)|(simp (disch:=first|omega|(simp at *;omega)) only [u64_id,i64_id,u8_id];rfl)) ?_;(with_reducible refine (ckone_Decode.calls kj14 a1 t222 t223 t226 _ A56.out).mono ?_);rintro e w100 ⟨v224,rfl,ho0,hb⟩;refine ⟨_,rfl,?_⟩;have n0_:=Aside0.mk (Kd.R_lower ho0 (below_size (by repeat (first|(with_reducible first|exact HB.out|apply below_alloc|apply pw_below_drewN|apply below_drew1|refine below_set ?_ GE202.out)|exact HB.out))));have n1_:=Aside0.mk (blk_below (g:=gb202) (o:=.cells #[.int .u32 a0_0,.slice A0_1 l0_1.length c0_1] 25 (0,0)) (by (with_reducible repeat (first|apply blk_drewN|apply blk_drew|apply blk_alloc));exact BK202.out) hb);have n2_:=Aside0.mk (below_step (by repeat (first|(with_reducible first|exact HB.out|apply below_alloc|apply pw_below_drewN|apply below_drew1|refine below_set ?_ GE202.out)|exact HB.out)) hb);clear BK202;clear HB;have HO225:=n0_;have BK202:=n1_;have HB:=n2_;clear n0_ n1_ n2_;(try clear hb);(try clear hb2);(try clear hk);(try clear hi);(try clear ho0))|((with_reducible refine gate_dst (N:=9) rfl ?_);refine box_event ?hg (N:=9) ?hd (cs:=#[.int .u32 0,.slice none 0 0]) (t:=25) ?hr ?_;(case hd=>rfl);(case hg=>rfl);(case hr=>first|(go_simp;done)|(go_simp;rfl));intro gb227 hg w101 hbox hb;have n0_:=Aside0.mk (Kd.R_below (by (with_reducible repeat (first|apply Kd.R_alloc|apply Kd.R_drewN|apply Kd.R_drew));exact HO225.out) hb);have n1_:=Aside0.mk (blk_below (g:=gb202) (o:=.cells #[.int .u32 a0_0,.slice A0_1 l0_1.length c0_1] 25 (0,0)) (by (with_reducible repeat (first|apply blk_drewN|apply blk_drew|apply blk_alloc));exact BK202.out) hb);have n2_:=Aside0.mk (below_step (by repeat (first|(with_reducible first|exact HB.out|apply below_alloc|apply pw_below_drewN|apply below_drew1|refine below_set ?_ GE202.out)|exact HB.out)) hb);have n3_:=Aside0.mk (hbox);have n4_:=Aside0.mk ((by rw [hg];exact (below_size (by repeat (first|(with_reducible first|exact HB.out|apply below_alloc|apply pw_below_drewN|apply below_drew1|refine below_set ?_ GE202.out)|exact HB.out))) : w.heap.size ≤ gb227));have n5_:=Aside0.mk ((by rw [hg];exact (below_size (by repeat (first|(with_reducible first|exact HB.out|apply below_alloc|apply pw_below_drewN|apply below_drew1|refine below_set ?_ GE202.out)|exact HB.out))) : w.heap.size ≤ gb227));have n6_:=Aside0.mk ((by rw [hg];exact Nat.ne_of_lt (blk_lt (g:=gb202) (o:=.cells #[.int .u32 a0_0,.slice A0_1 l0_1.length c0_1] 25 (0,0)) (by (with_reducible repeat (first|apply blk_drewN|apply blk_drew|apply blk_alloc));exact BK202.out)) : gb202 ≠ gb227));have n7_:=Aside0.mk ((by rw [hg];exact Nat.ne_of_gt (blk_lt (g:=gb202) (o:=.cells #[.int .u32 a0_0,.slice A0_1 l0_1.length c0_1] 25 (0,0)) (by (with_reducible repeat (first|apply blk_drewN|apply blk_drew|apply blk_alloc));exact BK202.out)) : gb227 ≠ gb202));clear HO225;clear BK202;clear HB;have HO225:=n0_;have BK202:=n1_;have HB:=n2_;have BK227:=n3_;have GW227:=n4_;have GE227:=n5_;have NB202_227:=n6_;have NB227_202:=n7_;clear n0_ n1_ n2_ n3_ n4_ n5_ n6_ n7_;clear hb hbox hg;have hnb102:=NB227_202.out;have hnc102:=NB202_227.out;have hcz103_0 : w101.cell? ⟨gb227,0,none⟩ = some (.int .u32 0):=(blk_cell BK227.out 0).trans rfl;have hcz103_1 : w101.cell? ⟨gb227,1,none⟩ = some (.slice none 0 0):=(blk_cell BK227.out 1).trans rfl;have hfz103_0:=blk_frozen BK227.out 0;have hfz103_1:=blk_frozen BK227.out 1;obtain ⟨Ao104,co104,eo104⟩:=Kd.R_slice HO225.out;subst eo104)|((with_reducible refine gate_callee (f:=10) rfl ?_);refine goesL_ (some 50) rfl rfl Tryd.func10 (by kernel_rfl) rfl #[] rfl (by (try simp only [List.map_toArray,List.map_cons,List.map_nil]);first|done|rfl|(simp only [List.length_drop,List.length_take];rfl)|(simp (disch:=first|omega|(simp at *;omega)) only [u64_id,i64_id,u8_id];rfl)) ?_;(with_reducible refine (bosunlaw17_Awake.calls kj14  false _ A83.out).mono ?_);rintro e w105 ⟨rfl,hb⟩;refine ⟨_,rfl,?_⟩;have n0_:=Aside0.mk (Kd.R_below (by (with_reducible repeat (first|apply Kd.R_alloc|apply Kd.R_drewN|apply Kd.R_drew));exact (Kd.R_mono (Kd.R_far (p:=⟨gb227,1,none⟩) (Kd.R_far (p:=⟨gb227,0,none⟩) (Kd.R_types HO225.out BK227.out (by decide)) (fun _ hk=>hk.2) (.int .u32 t222)) (fun _ hk=>hk.2) (.slice Ao104 t223.length co104)) (fun _ h_=>h_.1))) hb);have n1_:=Aside0.mk (blk_below (g:=gb202) (o:=.cells #[.int .u32 a0_0,.slice A0_1 l0_1.length c0_1] 25 (0,0)) (by (with_reducible repeat (first|apply blk_drewN|apply blk_drew|apply blk_alloc));refine blk_far ?_ NB202_227.out _;(with_reducible repeat (first|apply blk_drewN|apply blk_drew|apply blk_alloc));refine blk_far ?_ NB202_227.out _;(with_reducible repeat (first|apply blk_drewN|apply blk_drew|apply blk_alloc));exact BK202.out) hb);have n2_:=Aside0.mk (blk_below (g:=gb227) (o:=.cells #[.int .u32 t222,.slice Ao104 t223.length co104] 25 (0,0)) (by (with_reducible repeat (first|apply blk_drewN|apply blk_drew|apply blk_alloc));refine blk_put (cs:=#[.int .u32 t222,.slice none 0 0]) ?_ 1 _ rfl;(with_reducible repeat (first|apply blk_drewN|apply blk_drew|apply blk_alloc));refine blk_put (cs:=#[.int .u32 0,.slice none 0 0]) ?_ 0 _ rfl;(with_reducible repeat (first|apply blk_drewN|apply blk_drew|apply blk_alloc));exact BK227.out) hb);have n3_:=Aside0.mk (below_step (by repeat (first|(with_reducible first|exact HB.out|apply below_alloc|apply pw_below_drewN|apply below_drew1|refine below_set ?_ GE202.out|refine below_set ?_ GE227.out)|exact HB.out)) hb);clear HO225;clear BK202;clear BK227;clear HB;have HO225:=n0_;have BK202:=n1_;have BK227:=n2_;have HB:=n3_;clear n0_ n1_ n2_ n3_;(try clear hb);(try clear hb2);(try clear hk);(try clear hi)))
        go_ret
        exact ⟨by first|rfl|(simp [errW_none,errW_some] <;> rfl)|(simp [*,errW_none,errW_some] <;> rfl),by repeat (first|(with_reducible first|exact HB.out|apply below_alloc|apply pw_below_drewN|apply below_drew1|refine below_set ?_ GE202.out|refine below_set ?_ GE227.out)|exact HB.out)⟩

end Go.Proofs.YtpmbdcljphpcnaaDoor.GCk
