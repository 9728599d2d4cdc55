/- Written by this session's own program (wip/gen.py) out of the translation: plain Lean functions of the Go functions, and proofs that the calls come to their answers. No conditions beside those in the statements. -/
import Derived.Test.YthnbkhggbfnpcaaGEvx0
import Derived.Test.YthnbkhggbfnpcaaGEvx4
namespace Go.Proofs.Ythnbkhggbfnpcaa.GEv
open Go.RowKit Go.Proofs.YthnbkhggbfnpcaaW.PrintWords Go.Proofs.YthnbkhggbfnpcaaW.PrintLast Go.Proofs.YthnbkhggbfnpcaaW.PrintMore
attribute [local go_sem] max2_int min2_int max_two min_two max_three min_three max_four min_four   -- for this text's walks alone
set_option linter.unusedVariables false
set_option linter.unusedSimpArgs false

/-! ### bosunref24_First: function 13 -/
def bosunref24_First.l0 : Nat → Int → List ByteArray → List (S39) → Int → Option (List ByteArray)
 | 0,_,_,_,_=>none
 | k + 1,x1,x5,x6,x7=>if x7 < (x6.length : Int) then (if x7 < x1 then (if 0 ≤ x7 then (if x5.length < 8796093022208 then (bosunref24_First.l0 k x1 (x5 ++ [(rd_T39 x6 x7).f0]) x6 (wrap64 (x7 + 1))) else (none)) else (none)) else (some x5)) else (some x5)
def bosunref24_First.f (k : Nat) (l0 : List (S39)) (a1 : Int) : Option (List ByteArray):=(bosunref24_Order.f k l0).bind fun t145=>(bosunref24_First.l0 k a1 ([] : List ByteArray) t145 0)
theorem bosunref24_First.mono_l : ∀ k,(∀ y0 y1 y2 y3,LeO (bosunref24_First.l0 k y0 y1 y2 y3) (bosunref24_First.l0 (k + 1) y0 y1 y2 y3))
 | 0=>fun _ _ _ _ r h=>by simp [bosunref24_First.l0] at h
 | k + 1=>by
  have ih0:=bosunref24_First.mono_l k
  ·intro y0 y1 y2 y3
   unfold bosunref24_First.l0
   repeat' first
   | (with_reducible exact ih0 _ _ _ _)
   | (with_reducible exact bosunref24_Order.mono _ _)
   | (with_reducible exact LeO.refl _)
   | (with_reducible exact LeO.none _)
   | (with_reducible refine LeO.ite ?_ ?_)
   | (with_reducible refine LeO.bind ?_ (fun _=>?_))
   | exact ih0 _ _ _ _
   | exact bosunref24_Order.mono _ _
   | exact LeO.none _
   | refine LeO.ite ?_ ?_
   | refine LeO.bind ?_ (fun _=>?_)
theorem bosunref24_First.mono : ∀ a0 a1 k,LeO (bosunref24_First.f k a0 a1) (bosunref24_First.f (k + 1) a0 a1):=by
 intro a0 a1 k
 have ih0:=bosunref24_First.mono_l k
 unfold bosunref24_First.f
 repeat' first
   | (with_reducible exact ih0 _ _ _ _)
   | (with_reducible exact bosunref24_Order.mono _ _)
   | (with_reducible exact LeO.refl _)
   | (with_reducible exact LeO.none _)
   | (with_reducible refine LeO.ite ?_ ?_)
   | (with_reducible refine LeO.bind ?_ (fun _=>?_))
   | exact ih0 _ _ _ _
   | exact bosunref24_Order.mono _ _
   | exact LeO.none _
   | refine LeO.ite ?_ ?_
   | refine LeO.bind ?_ (fun _=>?_)
set_option maxHeartbeats 8000000 in
set_option maxRecDepth 100000 in
theorem bosunref24_First.calls (k : Nat) (A0 : Option Addr) (c0 : Nat) (l0 : List (S39)) (a1 : Int) (r : List ByteArray) (w : World) (hr0 : Kd.C k39 w A0 l0.length l0) (hc0 : l0.length ≤ c0) (h : bosunref24_First.f k l0 a1 = some r) :
  Calls Try.prog 13 #[.slice A0 l0.length c0,.int .i64 a1] w fun e w'=>∃ v0_ : Value,e = .returned (v0_) ∧ Kd.R Kd.string 9 w' w.heap.size (fun _=>True) v0_ r ∧ Below w.heap.size w w':=by
 have HR0:=Aside0.mk hr0
 have HC0:=Aside0.mk hc0
 clear hr0 hc0
 have HB:=Aside0.mk (Below.refl w.heap.size w)
 have H : ((bosunref24_Order.f k l0).bind fun t145=>(bosunref24_First.l0 k a1 ([] : List ByteArray) t145 0)) = some r:=h
 clear h
 replace H:=Option.bind_eq_some_iff.mp H
 obtain ⟨t145,A30,H⟩:=H
 replace H : (bosunref24_First.l0 k a1 ([] : List ByteArray) t145 0) = some r:=H
 have A3:=Aside0.mk A30
 clear A30
 have H':=Aside0.mk H
 clear H
 go_enter Try.func13,Try.ntmps13
 go_wp2_with (first|((with_reducible refine gate_callee (f:=21) rfl ?_);refine goesL_ (some 9) rfl rfl Try.func21 (by kernel_rfl) rfl #[.slice A0 l0.length c0] rfl (by (try simp only [List.map_toArray,List.map_cons,List.map_nil]);first|done|rfl|(simp only [List.length_drop,List.length_take];rfl)|(simp (disch:=first|omega|(simp at *;omega)) only [u64_id,i64_id,u8_id];rfl)) ?_;(with_reducible refine (bosunref24_Order.calls k _ _ l0 t145 _ ?side1 ?side2 A3.out).mono ?_);(case side1=>repeat (first|exact HR0.out|(with_reducible refine Kd.C_alloc ?_ _)|(with_reducible refine Kd.C_drewN ?_ _)|(with_reducible refine Kd.C_drew ?_)));(case side2=>exact HC0.out);rintro e w4 ⟨v146,rfl,ho0,hb⟩;refine ⟨_,rfl,?_⟩;have n0_:=Aside0.mk (Kd.R_lower ho0 (below_size (by repeat (first|(with_reducible first|exact HB.out|apply below_alloc|apply pw_below_drewN|apply below_drew1)|exact HB.out))));have n1_:=Aside0.mk (below_step (by repeat (first|(with_reducible first|exact HB.out|apply below_alloc|apply pw_below_drewN|apply below_drew1)|exact HB.out)) hb);clear HB;have HO147:=n0_;have HB:=n1_;clear n0_ n1_;(try clear hb);(try clear hb2);(try clear hk);(try clear hi);(try clear ho0)))
 go_loopg [5,7] k (fun kq v5 v7 w'=>∃ (x5_1 : List ByteArray) (x7_1 : Int),v7 = .int .i64 x7_1 ∧ Aside0 (bosunref24_First.l0 kq a1 x5_1 t145 x7_1 = some r) ∧ Aside0 (kq ≤ k) ∧ Aside0 (Kd.R Kd.string 9 w' w.heap.size (fun _=>True) v5 x5_1) ∧ Aside0 (Kd.R k39 39 w' w.heap.size (fun _=>True) v146 t145) ∧ Aside0 (Below w.heap.size w w'))
 case atStart=>exact ⟨(([] : List ByteArray)),(0),(by first|rfl|(simp;done)|(simp [*];done)),H',⟨Nat.le_refl _⟩,⟨by first|exact Kd.R_nil _ _ _ _ _|exact Kd.N_nil _ _ _ _ _|exact Kd.V_nil _ _ _ _ _|exact Kd.Q_nil _ _ _ _ _|exact Kd.S_nil _ _ _ _ _⟩,⟨by (with_reducible repeat (first|apply Kd.R_alloc|apply Kd.R_drewN|apply Kd.R_drew));exact HO147.out⟩,⟨by repeat (first|(with_reducible first|exact HB.out|apply below_alloc|apply pw_below_drewN|apply below_drew1)|exact HB.out)⟩⟩
 case round =>
  clear H'
  try clear c1
  try clear c2
  try clear p2
  obtain ⟨x5_1,x7_1,rfl,HA,HK1,HO_5,HO_6,HB⟩:=hrel
  cases gk with
  | zero=>exact absurd HA.out (by simp [bosunref24_First.l0])
  | succ k1 =>
   have H:=HA.out
   clear HA
   simp only [bosunref24_First.l0] at H
   by_cases c5 : x7_1 < (t145.length : Int)
   ·rw [if_pos c5] at H
    have c5b0 : decide (x7_1 < (t145.length : Int)) = true:=decide_eq_true c5
    clear c5
    by_cases c6 : x7_1 < a1
    ·rw [if_pos c6] at H
     have c6b0 : decide (x7_1 < a1) = true:=decide_eq_true c6
     clear c6
     by_cases c7 : 0 ≤ x7_1
     ·rw [if_pos c7] at H
      have c7b0 : decide (0 ≤ x7_1) = true:=decide_eq_true c7
      clear c7
      by_cases c8 : x5_1.length < 8796093022208
      ·rw [if_pos c8] at H
       have LMc8:=Aside0.mk c8
       clear c8
       obtain ⟨y149,hy149⟩ : ∃ y_ : List ByteArray,y_ = (x5_1 ++ [(rd_T39 t145 x7_1).f0]):=⟨_,rfl⟩
       replace H : (bosunref24_First.l0 k1 a1 y149 t145 (wrap64 (x7_1 + 1))) = some r:=by first|(rw [hy149];with_reducible exact H)|(have H2_:=(Option.bind_some _ _).symm.trans H;rw [hy149];with_reducible exact H2_)|(have H2_:=(Option.bind_some _ _).symm.trans H;with_reducible exact H2_)|with_reducible exact H|(rw [hy149];exact H)|exact H
       have Ny149:=Aside0.mk hy149
       clear hy149
       have H':=Aside0.mk H
       clear H
       obtain ⟨Ao9,co9,eo9⟩:=Kd.R_slice HO_6.out
       subst eo9
       have p148 : 0 ≤ (x7_1 : Int):=of_decide_eq_true (by first|(with_reducible assumption)|assumption)
       have q148 : x7_1 < (t145.length : Int):=of_decide_eq_true (by first|(with_reducible assumption)|assumption)
       obtain ⟨ad148,e148,hx148_0,hx148_1,hx148_2⟩:=at_T39 (Kd.R_reads' HO_6.out).2.2 x7_1 p148 q148
       cases e148
       replace p148:=eq_true p148
       replace q148:=eq_true q148
       go_wp2_with (first|((with_reducible refine gate_builtin (b:=.append) (xs:=#[.tmp 21,.tmp 27]) rfl ?_);at_builtin;refine Kd.R_append Kd.string (w0:=w) w.heap.size rfl (.tmp 21) (.tmp 27) 29 9 (.string ⟨#[]⟩) 16 rfl Try.underlying29 info9 rfl (by decide) (by omega) u5 x5_1 ((rd_T39 t145 x7_1).f0) [.string ((rd_T39 t145 x7_1).f0)] (fun _=>True) (fun _=>False) rfl rfl ?aP (fun _ hk=>hk.elim) ?aF ?aO ?aB ?aS ?aL ?_;(case aP=>exact rfl);(case aB=>exact (by repeat (first|(with_reducible first|exact HB.out|apply below_alloc|apply pw_below_drewN|apply below_drew1)|exact HB.out)));(case aF=>exact (fun _ _=>trivial));(case aO=>exact (by (with_reducible repeat (first|apply Kd.R_alloc|apply Kd.R_drewN|apply Kd.R_drew));exact HO_5.out));(case aS=>exact (below_size (by repeat (first|(with_reducible first|exact HB.out|apply below_alloc|apply pw_below_drewN|apply below_drew1)|exact HB.out))));(case aL=>have:=LMc8.out;omega);intro v150 w10 ho hb hg hat;rw [← Ny149.out] at ho;have n0_:=Aside0.mk (Kd.R_over' (by (with_reducible repeat (first|apply Kd.R_alloc|apply Kd.R_drewN|apply Kd.R_drew));exact HO_6.out) (Kd.R_typed (by (with_reducible repeat (first|apply Kd.R_alloc|apply Kd.R_drewN|apply Kd.R_drew));exact HO_5.out)) (by decide) hg);have n1_:=Aside0.mk (hb);have n2_:=Aside0.mk (ho);clear HO_6;clear HB;clear HO_5;have HO_6:=n0_;have HB:=n1_;have HO151:=n2_;clear n0_ n1_ n2_;clear ho hb hg hat))
       go_roundg k1
       case measure=>have:=HK1.out;omega
       case rel=>exact ⟨(y149),(wrap64 (x7_1 + 1)),(by first|rfl|(simp;done)|(simp [*];done)),H',⟨by have:=HK1.out;omega⟩,⟨by (with_reducible repeat (first|apply Kd.R_alloc|apply Kd.R_drewN|apply Kd.R_drew));exact HO151.out⟩,⟨by (with_reducible repeat (first|apply Kd.R_alloc|apply Kd.R_drewN|apply Kd.R_drew));exact HO_6.out⟩,⟨by repeat (first|(with_reducible first|exact HB.out|apply below_alloc|apply pw_below_drewN|apply below_drew1)|exact HB.out)⟩⟩
      ·rw [if_neg c8] at H
       exact absurd H (by simp)
     ·rw [if_neg c7] at H
      exact absurd H (by simp)
    ·rw [if_neg c6] at H
     have c6b0 : decide (x7_1 < a1) = false:=decide_eq_false c6
     clear c6
     obtain rfl:=Option.some.inj H
     obtain ⟨Ao11,co11,eo11⟩:=Kd.R_slice HO_6.out
     subst eo11
     go_wp2
     go_ret
     exact ⟨_,by first|rfl|(simp [errW_none,errW_some] <;> rfl)|(simp [*,errW_none,errW_some] <;> rfl),by (with_reducible repeat (first|apply Kd.R_alloc|apply Kd.R_drewN|apply Kd.R_drew));exact HO_5.out,by repeat (first|(with_reducible first|exact HB.out|apply below_alloc|apply pw_below_drewN|apply below_drew1)|exact HB.out)⟩
   ·rw [if_neg c5] at H
    have c5b0 : decide (x7_1 < (t145.length : Int)) = false:=decide_eq_false c5
    clear c5
    obtain rfl:=Option.some.inj H
    obtain ⟨Ao12,co12,eo12⟩:=Kd.R_slice HO_6.out
    subst eo12
    go_wp2
    go_ret
    exact ⟨_,by first|rfl|(simp [errW_none,errW_some] <;> rfl)|(simp [*,errW_none,errW_some] <;> rfl),by (with_reducible repeat (first|apply Kd.R_alloc|apply Kd.R_drewN|apply Kd.R_drew));exact HO_5.out,by repeat (first|(with_reducible first|exact HB.out|apply below_alloc|apply pw_below_drewN|apply below_drew1)|exact HB.out)⟩

-- NOT PRINTED: function 14 (evict_Until)


-- NOT PRINTED: function 15 (bosunref24_Until)

-- NOT PRINTED: function 4 (bosunlaw24_EvictOrders)

-- NOT PRINTED: function 3 (bosunlaw24_EvictStands)

end Go.Proofs.Ythnbkhggbfnpcaa.GEv
