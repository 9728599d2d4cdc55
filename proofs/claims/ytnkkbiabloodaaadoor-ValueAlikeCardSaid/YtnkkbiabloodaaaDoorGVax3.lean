/- Written by this session's own program (wip/gen.py) out of the translation: plain Lean functions of the Go functions, and proofs that the calls come to their answers. No conditions beside those in the statements. -/
import Derived.Test.YtnkkbiabloodaaaDoorGVax0
namespace Go.Proofs.YtnkkbiabloodaaaDoor.GVa
open Go.RowKit Go.Proofs.YtnkkbiabloodaaaDoorW.PrintWords Go.Proofs.YtnkkbiabloodaaaDoorW.PrintLast Go.Proofs.YtnkkbiabloodaaaDoorW.PrintMore
attribute [local go_sem] max2_int min2_int max_two min_two max_three min_three max_four min_four   -- for this text's walks alone
set_option linter.unusedVariables false
set_option linter.unusedSimpArgs false

/-! ### value_Value_parts: function 36 -/
def value_Value_parts.l0 : Nat → List (S29) → List (S48) → Int → Int → Option ((List (S29)))
 | 0,_,_,_,_=>none
 | k + 1,x3,x15,x16,x17=>if x17 < x16 then (if 0 ≤ x17 then (if x17 < (x15.length : Int) then (if x3.length < 1599289640401 then (value_Value_parts.l0 k (x3 ++ [(⟨(rd_T48 x15 x17).f1.f0,(rd_T48 x15 x17).f1.f1,(rd_T48 x15 x17).f1.f2,(rd_T48 x15 x17).f1.f3,(rd_T48 x15 x17).f1.f4,(rd_T48 x15 x17).f1.f5⟩ : S29)]) x15 x16 (wrap64 (x17 + 1))) else (none)) else (none)) else (none)) else (some x3)
def value_Value_parts.f (k : Nat) (a0_0 : Int) (a0_1 : Bool) (a0_2 : Int) (a0_3 : ByteArray) (l0_4 : List (S29)) (l0_5 : List (S48)) : Option ((List (S29))):=if a0_0 = 4 then (some l0_4) else (if a0_0 = 5 then (value_Value_parts.l0 k ([] : List (S29)) l0_5 (l0_5.length : Int) 0) else (some ([] : List (S29))))
theorem value_Value_parts.mono_l : ∀ k,(∀ y0 y1 y2 y3,LeO (value_Value_parts.l0 k y0 y1 y2 y3) (value_Value_parts.l0 (k + 1) y0 y1 y2 y3))
 | 0=>fun _ _ _ _ r h=>by simp [value_Value_parts.l0] at h
 | k + 1=>by
  have ih0:=value_Value_parts.mono_l k
  ·intro y0 y1 y2 y3
   unfold value_Value_parts.l0
   repeat' first
   | (with_reducible exact ih0 _ _ _ _)
   | (with_reducible exact LeO.refl _)
   | (with_reducible exact LeO.none _)
   | (with_reducible refine LeO.ite ?_ ?_)
   | (with_reducible refine LeO.bind ?_ (fun _=>?_))
   | exact ih0 _ _ _ _
   | exact LeO.none _
   | refine LeO.ite ?_ ?_
   | refine LeO.bind ?_ (fun _=>?_)
theorem value_Value_parts.mono : ∀ a0 a1 a2 a3 a4 a5 k,LeO (value_Value_parts.f k a0 a1 a2 a3 a4 a5) (value_Value_parts.f (k + 1) a0 a1 a2 a3 a4 a5):=by
 intro a0 a1 a2 a3 a4 a5 k
 have ih0:=value_Value_parts.mono_l k
 unfold value_Value_parts.f
 repeat' first
   | (with_reducible exact ih0 _ _ _ _)
   | (with_reducible exact LeO.refl _)
   | (with_reducible exact LeO.none _)
   | (with_reducible refine LeO.ite ?_ ?_)
   | (with_reducible refine LeO.bind ?_ (fun _=>?_))
   | exact ih0 _ _ _ _
   | exact LeO.none _
   | refine LeO.ite ?_ ?_
   | refine LeO.bind ?_ (fun _=>?_)
set_option maxHeartbeats 8000000 in
set_option maxRecDepth 100000 in
theorem value_Value_parts.calls (k : Nat) (a0_0 : Int) (a0_1 : Bool) (a0_2 : Int) (a0_3 : ByteArray) (P0_4_ : Nat → Prop) (A0_4 : Option Addr) (c0_4 : Nat) (l0_4 : List (S29)) (P0_5_ : Nat → Prop) (A0_5 : Option Addr) (c0_5 : Nat) (l0_5 : List (S48)) (r : List (S29)) (w : World) (hs0_4 : Kd.V k29 29 w w.heap.size (fun k_=>P0_4_ k_) (.slice A0_4 l0_4.length c0_4) l0_4) (hs0_5 : Kd.V k48 48 w w.heap.size (fun k_=>P0_5_ k_) (.slice A0_5 l0_5.length c0_5) l0_5) (h : value_Value_parts.f k a0_0 a0_1 a0_2 a0_3 l0_4 l0_5 = some r) :
  Calls Tryd.prog 36 #[.agg #[.int .i64 a0_0,.bool a0_1,.int .i64 a0_2,.string a0_3,.slice A0_4 l0_4.length c0_4,.slice A0_5 l0_5.length c0_5]] w fun e w'=>∃ v0_ : Value,e = .returned (v0_) ∧ Kd.V k29 29 w' w.heap.size (fun k_=>((P0_4_ k_ ∨ P0_5_ k_) ∨ w.heap.size ≤ k_)) v0_ r ∧ Below w.heap.size w w':=by
 have hu29:=Tryd.underlying29
 have hu48:=Tryd.underlying48
 have HO0_4:=Aside0.mk (show Kd.V k29 29 w w.heap.size (fun k_=>((P0_4_ k_ ∨ P0_5_ k_) ∨ w.heap.size ≤ k_)) (.slice A0_4 l0_4.length c0_4) l0_4 from Kd.V_mono hs0_4 (fun k_ hk=>.inl (.inl hk)))
 have HO0_5:=Aside0.mk (show Kd.V k48 48 w w.heap.size (fun k_=>((P0_4_ k_ ∨ P0_5_ k_) ∨ w.heap.size ≤ k_)) (.slice A0_5 l0_5.length c0_5) l0_5 from Kd.V_mono hs0_5 (fun k_ hk=>.inl (.inr hk)))
 have HB:=Aside0.mk (Below.refl w.heap.size w)
 have H : (if a0_0 = 4 then (some l0_4) else (if a0_0 = 5 then (value_Value_parts.l0 k ([] : List (S29)) l0_5 (l0_5.length : Int) 0) else (some ([] : List (S29))))) = some r:=h
 clear h
 by_cases c2 : a0_0 = 4
 ·rw [if_pos c2] at H
  have c2b0 : (a0_0 == 4) = true:=beq_iff_eq.mpr c2
  have c2b1 : (a0_0 != 4) = false:=bne_eq_false_iff_eq.mpr c2
  clear c2
  obtain rfl:=Option.some.inj H
  go_enter Tryd.func36,Tryd.ntmps36
  go_wp2_with (first|((with_reducible refine gate_dst (N:=1) rfl ?_);refine box_event ?hg (N:=1) ?hd (cs:=#[.int .i64 a0_0,.bool a0_1,.int .i64 a0_2,.string a0_3,.slice A0_4 l0_4.length c0_4,.slice A0_5 l0_5.length c0_5]) (t:=29) ?hr ?_;(case hd=>rfl);(case hg=>rfl);(case hr=>first|(go_simp;done)|(go_simp;rfl));intro gb113 hg w3 hbox hb;have n0_:=Aside0.mk (Kd.V_below (Kd.V_elderB (by (with_reducible repeat (first|apply Kd.V_alloc|apply Kd.V_drewN|apply Kd.V_drew));exact HO0_4.out) gb113 (Nat.le_of_eq hg.symm)) hb);have n1_:=Aside0.mk (Kd.V_below (Kd.V_elderB (by (with_reducible repeat (first|apply Kd.V_alloc|apply Kd.V_drewN|apply Kd.V_drew));exact HO0_5.out) gb113 (Nat.le_of_eq hg.symm)) hb);have n2_:=Aside0.mk (below_step (by repeat (first|(with_reducible first|exact HB.out|apply below_alloc|apply pw_below_drewN|apply below_drew1)|exact HB.out)) hb);have n3_:=Aside0.mk (hbox);have n4_:=Aside0.mk ((by rw [hg];exact (below_size (by repeat (first|(with_reducible first|exact HB.out|apply below_alloc|apply pw_below_drewN|apply below_drew1)|exact HB.out))) : w.heap.size ≤ gb113));have n5_:=Aside0.mk ((by rw [hg];exact (below_size (by repeat (first|(with_reducible first|exact HB.out|apply below_alloc|apply pw_below_drewN|apply below_drew1)|exact HB.out))) : w.heap.size ≤ gb113));clear HO0_4;clear HO0_5;clear HB;have HO0_4:=n0_;have HO0_5:=n1_;have HB:=n2_;have BK113:=n3_;have GW113:=n4_;have GE113:=n5_;clear n0_ n1_ n2_ n3_ n4_ n5_;clear hb hbox hg;have hcz4_0 : w3.cell? ⟨gb113,0,none⟩ = some (.int .i64 a0_0):=(blk_cell BK113.out 0).trans rfl;have hcz4_1 : w3.cell? ⟨gb113,1,none⟩ = some (.bool a0_1):=(blk_cell BK113.out 1).trans rfl;have hcz4_2 : w3.cell? ⟨gb113,2,none⟩ = some (.int .i64 a0_2):=(blk_cell BK113.out 2).trans rfl;have hcz4_3 : w3.cell? ⟨gb113,3,none⟩ = some (.string a0_3):=(blk_cell BK113.out 3).trans rfl;have hcz4_4 : w3.cell? ⟨gb113,4,none⟩ = some (.slice A0_4 l0_4.length c0_4):=(blk_cell BK113.out 4).trans rfl;have hcz4_5 : w3.cell? ⟨gb113,5,none⟩ = some (.slice A0_5 l0_5.length c0_5):=(blk_cell BK113.out 5).trans rfl;have hfz4_0:=blk_frozen BK113.out 0;have hfz4_1:=blk_frozen BK113.out 1;have hfz4_2:=blk_frozen BK113.out 2;have hfz4_3:=blk_frozen BK113.out 3;have hfz4_4:=blk_frozen BK113.out 4;have hfz4_5:=blk_frozen BK113.out 5))
  go_ret
  exact ⟨_,by first|rfl|(simp [errW_none,errW_some] <;> rfl)|(simp [*,errW_none,errW_some] <;> rfl),by (with_reducible repeat (first|apply Kd.V_alloc|apply Kd.V_drewN|apply Kd.V_drew));exact Kd.V_mono HO0_4.out (fun _ hk=>hk.1),by repeat (first|(with_reducible first|exact HB.out|apply below_alloc|apply pw_below_drewN|apply below_drew1|refine below_set ?_ GE113.out)|exact HB.out)⟩
 ·rw [if_neg c2] at H
  have c2b0 : (a0_0 == 4) = false:=beq_eq_false_iff_ne.mpr c2
  have c2b1 : (a0_0 != 4) = true:=bne_iff_ne.mpr c2
  by_cases c5 : a0_0 = 5
  ·rw [if_pos c5] at H
   have c5b0 : (a0_0 == 5) = true:=beq_iff_eq.mpr c5
   have c5b1 : (a0_0 != 5) = false:=bne_eq_false_iff_eq.mpr c5
   clear c5
   have H':=Aside0.mk H
   clear H
   go_enter Tryd.func36,Tryd.ntmps36
   go_wp2_with (first|((with_reducible refine gate_dst (N:=1) rfl ?_);refine box_event ?hg (N:=1) ?hd (cs:=#[.int .i64 a0_0,.bool a0_1,.int .i64 a0_2,.string a0_3,.slice A0_4 l0_4.length c0_4,.slice A0_5 l0_5.length c0_5]) (t:=29) ?hr ?_;(case hd=>rfl);(case hg=>rfl);(case hr=>first|(go_simp;done)|(go_simp;rfl));intro gb113 hg w6 hbox hb;have n0_:=Aside0.mk (Kd.V_below (Kd.V_elderB (by (with_reducible repeat (first|apply Kd.V_alloc|apply Kd.V_drewN|apply Kd.V_drew));exact HO0_4.out) gb113 (Nat.le_of_eq hg.symm)) hb);have n1_:=Aside0.mk (Kd.V_below (Kd.V_elderB (by (with_reducible repeat (first|apply Kd.V_alloc|apply Kd.V_drewN|apply Kd.V_drew));exact HO0_5.out) gb113 (Nat.le_of_eq hg.symm)) hb);have n2_:=Aside0.mk (below_step (by repeat (first|(with_reducible first|exact HB.out|apply below_alloc|apply pw_below_drewN|apply below_drew1)|exact HB.out)) hb);have n3_:=Aside0.mk (hbox);have n4_:=Aside0.mk ((by rw [hg];exact (below_size (by repeat (first|(with_reducible first|exact HB.out|apply below_alloc|apply pw_below_drewN|apply below_drew1)|exact HB.out))) : w.heap.size ≤ gb113));have n5_:=Aside0.mk ((by rw [hg];exact (below_size (by repeat (first|(with_reducible first|exact HB.out|apply below_alloc|apply pw_below_drewN|apply below_drew1)|exact HB.out))) : w.heap.size ≤ gb113));clear HO0_4;clear HO0_5;clear HB;have HO0_4:=n0_;have HO0_5:=n1_;have HB:=n2_;have BK113:=n3_;have GW113:=n4_;have GE113:=n5_;clear n0_ n1_ n2_ n3_ n4_ n5_;clear hb hbox hg;have hcz7_0 : w6.cell? ⟨gb113,0,none⟩ = some (.int .i64 a0_0):=(blk_cell BK113.out 0).trans rfl;have hcz7_1 : w6.cell? ⟨gb113,1,none⟩ = some (.bool a0_1):=(blk_cell BK113.out 1).trans rfl;have hcz7_2 : w6.cell? ⟨gb113,2,none⟩ = some (.int .i64 a0_2):=(blk_cell BK113.out 2).trans rfl;have hcz7_3 : w6.cell? ⟨gb113,3,none⟩ = some (.string a0_3):=(blk_cell BK113.out 3).trans rfl;have hcz7_4 : w6.cell? ⟨gb113,4,none⟩ = some (.slice A0_4 l0_4.length c0_4):=(blk_cell BK113.out 4).trans rfl;have hcz7_5 : w6.cell? ⟨gb113,5,none⟩ = some (.slice A0_5 l0_5.length c0_5):=(blk_cell BK113.out 5).trans rfl;have hfz7_0:=blk_frozen BK113.out 0;have hfz7_1:=blk_frozen BK113.out 1;have hfz7_2:=blk_frozen BK113.out 2;have hfz7_3:=blk_frozen BK113.out 3;have hfz7_4:=blk_frozen BK113.out 4;have hfz7_5:=blk_frozen BK113.out 5))
   go_loopg [3,17] k (fun kq v3 v17 w'=>∃ (x3_1 : List (S29)) (x17_1 : Int),v17 = .int .i64 x17_1 ∧ Aside0 (value_Value_parts.l0 kq x3_1 l0_5 (l0_5.length : Int) x17_1 = some r) ∧ Aside0 (kq ≤ k) ∧ Aside0 (Kd.N k29 29 w' w.heap.size (fun k_=>((P0_4_ k_ ∨ P0_5_ k_) ∨ w.heap.size ≤ k_) ∧ k_ ≠ gb113) v3 x3_1) ∧ Aside0 (Kd.V k48 48 w' w.heap.size (fun k_=>((P0_4_ k_ ∨ P0_5_ k_) ∨ w.heap.size ≤ k_) ∧ some k_ ≠ (v3 : Value).ownBlock ∧ k_ ≠ gb113) (.slice A0_5 l0_5.length c0_5) l0_5) ∧ Aside0 (Kd.V k29 29 w' w.heap.size (fun k_=>((P0_4_ k_ ∨ P0_5_ k_) ∨ w.heap.size ≤ k_) ∧ some k_ ≠ (v3 : Value).ownBlock ∧ k_ ≠ gb113) (.slice A0_4 l0_4.length c0_4) l0_4) ∧ Aside0 (Kd.V k48 48 w' w.heap.size (fun k_=>((P0_4_ k_ ∨ P0_5_ k_) ∨ w.heap.size ≤ k_) ∧ some k_ ≠ (v3 : Value).ownBlock ∧ k_ ≠ gb113) (.slice A0_5 l0_5.length c0_5) l0_5) ∧ Aside0 (w'.heap[gb113]? = some (.cells #[.int .i64 a0_0,.bool a0_1,.int .i64 a0_2,.string a0_3,(.slice A0_4 l0_4.length c0_4),(.slice A0_5 l0_5.length c0_5)] 29 (0,0))) ∧ Aside0 (Below w.heap.size w w'))
   case atStart=>exact ⟨(([] : List (S29))),(0),(by first|rfl|(simp;done)|(simp [*];done)),H',⟨Nat.le_refl _⟩,⟨by first|exact Kd.R_nil _ _ _ _ _|exact Kd.N_nil _ _ _ _ _|exact Kd.V_nil _ _ _ _ _|exact Kd.Q_nil _ _ _ _ _|exact Kd.S_nil _ _ _ _ _⟩,⟨by (with_reducible repeat (first|apply Kd.V_alloc|apply Kd.V_drewN|apply Kd.V_drew));exact Kd.V_mono HO0_5.out (fun _ hk=>⟨hk.1,⟨(by simp [Value.ownBlock]),hk.2⟩⟩)⟩,⟨by (with_reducible repeat (first|apply Kd.V_alloc|apply Kd.V_drewN|apply Kd.V_drew));exact Kd.V_mono HO0_4.out (fun _ hk=>⟨hk.1,⟨(by simp [Value.ownBlock]),hk.2⟩⟩)⟩,⟨by (with_reducible repeat (first|apply Kd.V_alloc|apply Kd.V_drewN|apply Kd.V_drew));exact Kd.V_mono HO0_5.out (fun _ hk=>⟨hk.1,⟨(by simp [Value.ownBlock]),hk.2⟩⟩)⟩,⟨by (with_reducible repeat (first|apply blk_drewN|apply blk_drew|apply blk_alloc));exact BK113.out⟩,⟨by repeat (first|(with_reducible first|exact HB.out|apply below_alloc|apply pw_below_drewN|apply below_drew1|refine below_set ?_ GE113.out)|exact HB.out)⟩⟩
   case round =>
    clear H'
    try clear c2
    try clear c2b0
    try clear c2b1
    try clear p2
    try clear c3
    try clear c5
    try clear c5b0
    try clear c5b1
    try clear hcz4_0
    try clear hcz4_1
    try clear hcz4_2
    try clear hcz4_3
    try clear hcz4_4
    try clear hcz4_5
    try clear hcz7_0
    try clear hcz7_1
    try clear hcz7_2
    try clear hcz7_3
    try clear hcz7_4
    try clear hcz7_5
    try clear hfz4_0
    try clear hfz4_1
    try clear hfz4_2
    try clear hfz4_3
    try clear hfz4_4
    try clear hfz4_5
    try clear hfz7_0
    try clear hfz7_1
    try clear hfz7_2
    try clear hfz7_3
    try clear hfz7_4
    try clear hfz7_5
    obtain ⟨x3_1,x17_1,rfl,HA,HK1,HO_3,HO_15,HO_114004,HO_114005,BK113,HB⟩:=hrel
    cases gk with
    | zero=>exact absurd HA.out (by simp [value_Value_parts.l0])
    | succ k1 =>
     have H:=HA.out
     clear HA
     simp only [value_Value_parts.l0] at H
     by_cases c8 : x17_1 < (l0_5.length : Int)
     ·rw [if_pos c8] at H
      have c8b0 : decide (x17_1 < (l0_5.length : Int)) = true:=decide_eq_true c8
      clear c8
      by_cases c9 : 0 ≤ x17_1
      ·rw [if_pos c9] at H
       have c9b0 : decide (0 ≤ x17_1) = true:=decide_eq_true c9
       clear c9
       by_cases c10 : x17_1 < (l0_5.length : Int)
       ·rw [if_pos c10] at H
        have c10b0 : decide (x17_1 < (l0_5.length : Int)) = true:=decide_eq_true c10
        clear c10
        by_cases c11 : x3_1.length < 1599289640401
        ·rw [if_pos c11] at H
         have LMc11:=Aside0.mk c11
         clear c11
         obtain ⟨y116,hy116⟩ : ∃ y_ : List (S29),y_ = (x3_1 ++ [(⟨(rd_T48 l0_5 x17_1).f1.f0,(rd_T48 l0_5 x17_1).f1.f1,(rd_T48 l0_5 x17_1).f1.f2,(rd_T48 l0_5 x17_1).f1.f3,(rd_T48 l0_5 x17_1).f1.f4,(rd_T48 l0_5 x17_1).f1.f5⟩ : S29)]):=⟨_,rfl⟩
         replace H : (value_Value_parts.l0 k1 y116 l0_5 (l0_5.length : Int) (wrap64 (x17_1 + 1))) = some r:=by first|(rw [hy116];with_reducible exact H)|(have H2_:=(Option.bind_some _ _).symm.trans H;rw [hy116];with_reducible exact H2_)|(have H2_:=(Option.bind_some _ _).symm.trans H;with_reducible exact H2_)|with_reducible exact H|(rw [hy116];exact H)|exact H
         have Ny116:=Aside0.mk hy116
         clear hy116
         have H':=Aside0.mk H
         clear H
         have p114 : 0 ≤ (x17_1 : Int):=of_decide_eq_true (by first|(with_reducible assumption)|assumption)
         have q114 : x17_1 < (l0_5.length : Int):=of_decide_eq_true (by first|(with_reducible assumption)|assumption)
         obtain ⟨ad114,A114_5,c114_5,A114_6,c114_6,e114,hx114_0,hx114_1,hx114_2,hx114_3,hx114_4,hx114_5,hx114_6,hl114_5,hi114_5,hl114_6,hi114_6⟩:=at_T48 (Kd.V_reads' HO_15.out).2.2 x17_1 p114 q114
         cases e114
         obtain ⟨ce114,hce114,hMe114,hcc114⟩:=Kd.V_get HO_15.out z48 x17_1 p114 (by first|exact q114|exact of_decide_eq_true (by first|(with_reducible assumption)|assumption)|(have e_:=(Kd.V_reads' HO_15.out).1;omega))
         obtain ⟨ua114_5,uc114_5,ua114_6,uc114_6,rfl,ul114_5,ge114_5,ul114_6,ge114_6⟩:=k48_openF hMe114
         have hv114_5:=hcc114 5 _ rfl
         rw [add_field _ _ 5 (by omega)] at hv114_5
         replace hv114_5:=Option.some.inj (hv114_5.symm.trans hx114_5)
         injection hv114_5 with hva_ hvn_ hvc_
         rw [hva_] at ge114_5
         rw [hvc_] at ul114_5
         have HL114_5:=Aside0.mk (show Kd.V k29 29 _ w.heap.size _ _ ((rd_T48 l0_5 x17_1).f1.f4) from Kd.V_mk ul114_5 ge114_5)
         clear hva_ hvn_ hvc_ ge114_5 ul114_5
         have hv114_6:=hcc114 6 _ rfl
         rw [add_field _ _ 6 (by omega)] at hv114_6
         replace hv114_6:=Option.some.inj (hv114_6.symm.trans hx114_6)
         injection hv114_6 with hva_ hvn_ hvc_
         rw [hva_] at ge114_6
         rw [hvc_] at ul114_6
         have HL114_6:=Aside0.mk (show Kd.V k48 48 _ w.heap.size _ _ ((rd_T48 l0_5 x17_1).f1.f5) from Kd.V_mk ul114_6 ge114_6)
         clear hva_ hvn_ hvc_ ge114_6 ul114_6
         clear hcc114 hce114
         have HR114_5:=Aside0.mk hi114_5
         have HC114_5:=Aside0.mk hl114_5
         clear hi114_5 hl114_5
         have HR114_6:=Aside0.mk hi114_6
         have HC114_6:=Aside0.mk hl114_6
         clear hi114_6 hl114_6
         replace p114:=eq_true p114
         replace q114:=eq_true q114
         go_wp2_with (first|((with_reducible refine gate_dst (N:=5) rfl ?_);refine box_event ?hg (N:=5) ?hd (cs:=#[.string (⟨#[]⟩ : ByteArray),.int .i64 0,.bool false,.int .i64 0,.string (⟨#[]⟩ : ByteArray),.slice none 0 0,.slice none 0 0]) (t:=48) ?hr ?_;(case hd=>rfl);(case hg=>rfl);(case hr=>first|(go_simp;done)|(go_simp;rfl));intro gb115 hg w12 hbox hb;have n0_:=Aside0.mk (Kd.N_below (Kd.N_elderB (by (with_reducible repeat (first|apply Kd.N_alloc|apply Kd.N_drewN|apply Kd.N_drew));exact HO_3.out) gb115 (Nat.le_of_eq hg.symm)) hb);have n1_:=Aside0.mk (Kd.V_below (Kd.V_elderB (by (with_reducible repeat (first|apply Kd.V_alloc|apply Kd.V_drewN|apply Kd.V_drew));exact HO_15.out) gb115 (Nat.le_of_eq hg.symm)) hb);have n2_:=Aside0.mk (Kd.V_below (Kd.V_elderB (by (with_reducible repeat (first|apply Kd.V_alloc|apply Kd.V_drewN|apply Kd.V_drew));exact HO_114004.out) gb115 (Nat.le_of_eq hg.symm)) hb);have n3_:=Aside0.mk (Kd.V_below (Kd.V_elderB (by (with_reducible repeat (first|apply Kd.V_alloc|apply Kd.V_drewN|apply Kd.V_drew));exact HO_114005.out) gb115 (Nat.le_of_eq hg.symm)) hb);have n4_:=Aside0.mk (Kd.V_below (Kd.V_elderB (by (with_reducible repeat (first|apply Kd.V_alloc|apply Kd.V_drewN|apply Kd.V_drew));exact HL114_5.out) gb115 (Nat.le_of_eq hg.symm)) hb);have n5_:=Aside0.mk (Kd.V_below (Kd.V_elderB (by (with_reducible repeat (first|apply Kd.V_alloc|apply Kd.V_drewN|apply Kd.V_drew));exact HL114_6.out) gb115 (Nat.le_of_eq hg.symm)) hb);have n6_:=Aside0.mk (blk_below (g:=gb113) (o:=.cells #[.int .i64 a0_0,.bool a0_1,.int .i64 a0_2,.string a0_3,.slice A0_4 l0_4.length c0_4,.slice (some ad114) l0_5.length c0_5] 29 (0,0)) (by (with_reducible repeat (first|apply blk_drewN|apply blk_drew|apply blk_alloc));exact BK113.out) hb);have n7_:=Aside0.mk (Kd.C_below (by repeat (first|(with_reducible exact HR114_5.out)|(with_reducible refine Kd.C_alloc ?_ _)|(with_reducible refine Kd.C_drewN ?_ _)|(with_reducible refine Kd.C_drew ?_)|exact HR114_5.out)) hb);have n8_:=Aside0.mk (Kd.C_below (by repeat (first|(with_reducible exact HR114_6.out)|(with_reducible refine Kd.C_alloc ?_ _)|(with_reducible refine Kd.C_drewN ?_ _)|(with_reducible refine Kd.C_drew ?_)|exact HR114_6.out)) hb);have n9_:=Aside0.mk (below_step (by repeat (first|(with_reducible first|exact HB.out|apply below_alloc|apply pw_below_drewN|apply below_drew1|refine below_set ?_ GE113.out)|exact HB.out)) hb);have n10_:=Aside0.mk (hbox);have n11_:=Aside0.mk ((by rw [hg];exact (below_size (by repeat (first|(with_reducible first|exact HB.out|apply below_alloc|apply pw_below_drewN|apply below_drew1|refine below_set ?_ GE113.out)|exact HB.out))) : w.heap.size ≤ gb115));have n12_:=Aside0.mk ((by rw [hg];exact (below_size (by repeat (first|(with_reducible first|exact HB.out|apply below_alloc|apply pw_below_drewN|apply below_drew1|refine below_set ?_ GE113.out)|exact HB.out))) : w.heap.size ≤ gb115));have n13_:=Aside0.mk ((by rw [hg];exact Nat.ne_of_lt (blk_lt (g:=gb113) (o:=.cells #[.int .i64 a0_0,.bool a0_1,.int .i64 a0_2,.string a0_3,.slice A0_4 l0_4.length c0_4,.slice (some ad114) l0_5.length c0_5] 29 (0,0)) (by (with_reducible repeat (first|apply blk_drewN|apply blk_drew|apply blk_alloc));exact BK113.out)) : gb113 ≠ gb115));have n14_:=Aside0.mk ((by rw [hg];exact Nat.ne_of_gt (blk_lt (g:=gb113) (o:=.cells #[.int .i64 a0_0,.bool a0_1,.int .i64 a0_2,.string a0_3,.slice A0_4 l0_4.length c0_4,.slice (some ad114) l0_5.length c0_5] 29 (0,0)) (by (with_reducible repeat (first|apply blk_drewN|apply blk_drew|apply blk_alloc));exact BK113.out)) : gb115 ≠ gb113));clear HO_3;clear HO_15;clear HO_114004;clear HO_114005;clear HL114_5;clear HL114_6;clear BK113;clear HR114_5;clear HR114_6;clear HB;have HO_3:=n0_;have HO_15:=n1_;have HO_114004:=n2_;have HO_114005:=n3_;have HL114_5:=n4_;have HL114_6:=n5_;have BK113:=n6_;have HR114_5:=n7_;have HR114_6:=n8_;have HB:=n9_;have BK115:=n10_;have GW115:=n11_;have GE115:=n12_;have NB113_115:=n13_;have NB115_113:=n14_;clear n0_ n1_ n2_ n3_ n4_ n5_ n6_ n7_ n8_ n9_ n10_ n11_ n12_ n13_ n14_;clear hb hbox hg;have hnb13:=NB115_113.out;have hnc13:=NB113_115.out;have hcz14_0 : w12.cell? ⟨gb115,0,none⟩ = some (.string (⟨#[]⟩ : ByteArray)):=(blk_cell BK115.out 0).trans rfl;have hcz14_1 : w12.cell? ⟨gb115,1,none⟩ = some (.int .i64 0):=(blk_cell BK115.out 1).trans rfl;have hcz14_2 : w12.cell? ⟨gb115,2,none⟩ = some (.bool false):=(blk_cell BK115.out 2).trans rfl;have hcz14_3 : w12.cell? ⟨gb115,3,none⟩ = some (.int .i64 0):=(blk_cell BK115.out 3).trans rfl;have hcz14_4 : w12.cell? ⟨gb115,4,none⟩ = some (.string (⟨#[]⟩ : ByteArray)):=(blk_cell BK115.out 4).trans rfl;have hcz14_5 : w12.cell? ⟨gb115,5,none⟩ = some (.slice none 0 0):=(blk_cell BK115.out 5).trans rfl;have hcz14_6 : w12.cell? ⟨gb115,6,none⟩ = some (.slice none 0 0):=(blk_cell BK115.out 6).trans rfl;have hfz14_0:=blk_frozen BK115.out 0;have hfz14_1:=blk_frozen BK115.out 1;have hfz14_2:=blk_frozen BK115.out 2;have hfz14_3:=blk_frozen BK115.out 3;have hfz14_4:=blk_frozen BK115.out 4;have hfz14_5:=blk_frozen BK115.out 5;have hfz14_6:=blk_frozen BK115.out 6)|((with_reducible refine gate_store (t:=48) (p:=5) rfl ?_);refine store_event (t:=48) (p:=5) (v:=?vo_w15) (w1:=(((((((w12.setCell ⟨gb115,0,none⟩ (.string ((rd_T48 l0_5 x17_1).f0))).setCell ⟨gb115,1,none⟩ (.int .i64 ((rd_T48 l0_5 x17_1).f1.f0))).setCell ⟨gb115,2,none⟩ (.bool ((rd_T48 l0_5 x17_1).f1.f1))).setCell ⟨gb115,3,none⟩ (.int .i64 ((rd_T48 l0_5 x17_1).f1.f2))).setCell ⟨gb115,4,none⟩ (.string ((rd_T48 l0_5 x17_1).f1.f3))).setCell ⟨gb115,5,none⟩ (.slice A114_5 ((rd_T48 l0_5 x17_1).f1.f4).length c114_5)).setCell ⟨gb115,6,none⟩ (.slice A114_6 ((rd_T48 l0_5 x17_1).f1.f5).length c114_6))) ?hg ?ho ?hn ?hr ?_;(case ho=>rfl);(case hg=>rfl);(case hn=>rfl);(case hr=>first|(go_simp;done)|(go_simp;rfl));intro w15 hw;have n0_ : Aside0 (Kd.N k29 29 w15 w.heap.size (fun k_=>((P0_4_ k_ ∨ P0_5_ k_) ∨ w.heap.size ≤ k_) ∧ k_ ≠ gb113 ∧ k_ ≠ gb115) u3 x3_1):=⟨(by rw [hw];exact (by (with_reducible repeat (first|apply Kd.N_alloc|apply Kd.N_drewN|apply Kd.N_drew));exact Kd.N_mono (Kd.N_far (p:=⟨gb115,6,none⟩) (Kd.N_far (p:=⟨gb115,5,none⟩) (Kd.N_far (p:=⟨gb115,4,none⟩) (Kd.N_far (p:=⟨gb115,3,none⟩) (Kd.N_far (p:=⟨gb115,2,none⟩) (Kd.N_far (p:=⟨gb115,1,none⟩) (Kd.N_far (p:=⟨gb115,0,none⟩) (Kd.N_mono HO_3.out (fun k_ hk=>(⟨hk,hk.2⟩ : _ ∧ k_ ≠ gb115))) (fun _ hk=>hk.2) (.string ((rd_T48 l0_5 x17_1).f0))) (fun _ hk=>hk.2) (.int .i64 ((rd_T48 l0_5 x17_1).f1.f0))) (fun _ hk=>hk.2) (.bool ((rd_T48 l0_5 x17_1).f1.f1))) (fun _ hk=>hk.2) (.int .i64 ((rd_T48 l0_5 x17_1).f1.f2))) (fun _ hk=>hk.2) (.string ((rd_T48 l0_5 x17_1).f1.f3))) (fun _ hk=>hk.2) (.slice A114_5 ((rd_T48 l0_5 x17_1).f1.f4).length c114_5)) (fun _ hk=>hk.2) (.slice A114_6 ((rd_T48 l0_5 x17_1).f1.f5).length c114_6)) (fun _ hk=>⟨hk.1.1.1,⟨hk.1.1.2,hk.1.2⟩⟩)))⟩;have n1_ : Aside0 (Kd.V k48 48 w15 w.heap.size (fun k_=>((P0_4_ k_ ∨ P0_5_ k_) ∨ w.heap.size ≤ k_) ∧ some k_ ≠ (u3 : Value).ownBlock ∧ k_ ≠ gb113 ∧ k_ ≠ gb115) (.slice (some ad114) l0_5.length c0_5) l0_5):=⟨(by rw [hw];exact (by (with_reducible repeat (first|apply Kd.V_alloc|apply Kd.V_drewN|apply Kd.V_drew));exact Kd.V_mono (Kd.V_far (p:=⟨gb115,6,none⟩) (Kd.V_far (p:=⟨gb115,5,none⟩) (Kd.V_far (p:=⟨gb115,4,none⟩) (Kd.V_far (p:=⟨gb115,3,none⟩) (Kd.V_far (p:=⟨gb115,2,none⟩) (Kd.V_far (p:=⟨gb115,1,none⟩) (Kd.V_far (p:=⟨gb115,0,none⟩) (Kd.V_mono HO_15.out (fun k_ hk=>(⟨hk,hk.2⟩ : _ ∧ k_ ≠ gb115))) (fun _ hk=>hk.2) (.string ((rd_T48 l0_5 x17_1).f0))) (fun _ hk=>hk.2) (.int .i64 ((rd_T48 l0_5 x17_1).f1.f0))) (fun _ hk=>hk.2) (.bool ((rd_T48 l0_5 x17_1).f1.f1))) (fun _ hk=>hk.2) (.int .i64 ((rd_T48 l0_5 x17_1).f1.f2))) (fun _ hk=>hk.2) (.string ((rd_T48 l0_5 x17_1).f1.f3))) (fun _ hk=>hk.2) (.slice A114_5 ((rd_T48 l0_5 x17_1).f1.f4).length c114_5)) (fun _ hk=>hk.2) (.slice A114_6 ((rd_T48 l0_5 x17_1).f1.f5).length c114_6)) (fun _ hk=>⟨hk.1.1.1,⟨hk.1.1.2.1,⟨hk.1.1.2.2,hk.1.2⟩⟩⟩)))⟩;have n2_ : Aside0 (Kd.V k29 29 w15 w.heap.size (fun k_=>((P0_4_ k_ ∨ P0_5_ k_) ∨ w.heap.size ≤ k_) ∧ some k_ ≠ (u3 : Value).ownBlock ∧ k_ ≠ gb113 ∧ k_ ≠ gb115) (.slice A0_4 l0_4.length c0_4) l0_4):=⟨(by rw [hw];exact (by (with_reducible repeat (first|apply Kd.V_alloc|apply Kd.V_drewN|apply Kd.V_drew));exact Kd.V_mono (Kd.V_far (p:=⟨gb115,6,none⟩) (Kd.V_far (p:=⟨gb115,5,none⟩) (Kd.V_far (p:=⟨gb115,4,none⟩) (Kd.V_far (p:=⟨gb115,3,none⟩) (Kd.V_far (p:=⟨gb115,2,none⟩) (Kd.V_far (p:=⟨gb115,1,none⟩) (Kd.V_far (p:=⟨gb115,0,none⟩) (Kd.V_mono HO_114004.out (fun k_ hk=>(⟨hk,hk.2⟩ : _ ∧ k_ ≠ gb115))) (fun _ hk=>hk.2) (.string ((rd_T48 l0_5 x17_1).f0))) (fun _ hk=>hk.2) (.int .i64 ((rd_T48 l0_5 x17_1).f1.f0))) (fun _ hk=>hk.2) (.bool ((rd_T48 l0_5 x17_1).f1.f1))) (fun _ hk=>hk.2) (.int .i64 ((rd_T48 l0_5 x17_1).f1.f2))) (fun _ hk=>hk.2) (.string ((rd_T48 l0_5 x17_1).f1.f3))) (fun _ hk=>hk.2) (.slice A114_5 ((rd_T48 l0_5 x17_1).f1.f4).length c114_5)) (fun _ hk=>hk.2) (.slice A114_6 ((rd_T48 l0_5 x17_1).f1.f5).length c114_6)) (fun _ hk=>⟨hk.1.1.1,⟨hk.1.1.2.1,⟨hk.1.1.2.2,hk.1.2⟩⟩⟩)))⟩;have n3_ : Aside0 (Kd.V k48 48 w15 w.heap.size (fun k_=>((P0_4_ k_ ∨ P0_5_ k_) ∨ w.heap.size ≤ k_) ∧ some k_ ≠ (u3 : Value).ownBlock ∧ k_ ≠ gb113 ∧ k_ ≠ gb115) (.slice (some ad114) l0_5.length c0_5) l0_5):=⟨(by rw [hw];exact (by (with_reducible repeat (first|apply Kd.V_alloc|apply Kd.V_drewN|apply Kd.V_drew));exact Kd.V_mono (Kd.V_far (p:=⟨gb115,6,none⟩) (Kd.V_far (p:=⟨gb115,5,none⟩) (Kd.V_far (p:=⟨gb115,4,none⟩) (Kd.V_far (p:=⟨gb115,3,none⟩) (Kd.V_far (p:=⟨gb115,2,none⟩) (Kd.V_far (p:=⟨gb115,1,none⟩) (Kd.V_far (p:=⟨gb115,0,none⟩) (Kd.V_mono HO_114005.out (fun k_ hk=>(⟨hk,hk.2⟩ : _ ∧ k_ ≠ gb115))) (fun _ hk=>hk.2) (.string ((rd_T48 l0_5 x17_1).f0))) (fun _ hk=>hk.2) (.int .i64 ((rd_T48 l0_5 x17_1).f1.f0))) (fun _ hk=>hk.2) (.bool ((rd_T48 l0_5 x17_1).f1.f1))) (fun _ hk=>hk.2) (.int .i64 ((rd_T48 l0_5 x17_1).f1.f2))) (fun _ hk=>hk.2) (.string ((rd_T48 l0_5 x17_1).f1.f3))) (fun _ hk=>hk.2) (.slice A114_5 ((rd_T48 l0_5 x17_1).f1.f4).length c114_5)) (fun _ hk=>hk.2) (.slice A114_6 ((rd_T48 l0_5 x17_1).f1.f5).length c114_6)) (fun _ hk=>⟨hk.1.1.1,⟨hk.1.1.2.1,⟨hk.1.1.2.2,hk.1.2⟩⟩⟩)))⟩;have n4_ : Aside0 (Kd.V k29 29 w15 w.heap.size (fun k_=>((P0_4_ k_ ∨ P0_5_ k_) ∨ w.heap.size ≤ k_) ∧ some k_ ≠ (u3 : Value).ownBlock ∧ k_ ≠ gb113 ∧ k_ ≠ gb115) (.slice A114_5 ((rd_T48 l0_5 x17_1).f1.f4).length c114_5) ((rd_T48 l0_5 x17_1).f1.f4)):=⟨(by rw [hw];exact (by (with_reducible repeat (first|apply Kd.V_alloc|apply Kd.V_drewN|apply Kd.V_drew));exact Kd.V_mono (Kd.V_far (p:=⟨gb115,6,none⟩) (Kd.V_far (p:=⟨gb115,5,none⟩) (Kd.V_far (p:=⟨gb115,4,none⟩) (Kd.V_far (p:=⟨gb115,3,none⟩) (Kd.V_far (p:=⟨gb115,2,none⟩) (Kd.V_far (p:=⟨gb115,1,none⟩) (Kd.V_far (p:=⟨gb115,0,none⟩) (Kd.V_mono HL114_5.out (fun k_ hk=>(⟨hk,hk.2⟩ : _ ∧ k_ ≠ gb115))) (fun _ hk=>hk.2) (.string ((rd_T48 l0_5 x17_1).f0))) (fun _ hk=>hk.2) (.int .i64 ((rd_T48 l0_5 x17_1).f1.f0))) (fun _ hk=>hk.2) (.bool ((rd_T48 l0_5 x17_1).f1.f1))) (fun _ hk=>hk.2) (.int .i64 ((rd_T48 l0_5 x17_1).f1.f2))) (fun _ hk=>hk.2) (.string ((rd_T48 l0_5 x17_1).f1.f3))) (fun _ hk=>hk.2) (.slice A114_5 ((rd_T48 l0_5 x17_1).f1.f4).length c114_5)) (fun _ hk=>hk.2) (.slice A114_6 ((rd_T48 l0_5 x17_1).f1.f5).length c114_6)) (fun _ hk=>⟨hk.1.1.1,⟨hk.1.1.2.1,⟨hk.1.1.2.2,hk.1.2⟩⟩⟩)))⟩;have n5_ : Aside0 (Kd.V k48 48 w15 w.heap.size (fun k_=>((P0_4_ k_ ∨ P0_5_ k_) ∨ w.heap.size ≤ k_) ∧ some k_ ≠ (u3 : Value).ownBlock ∧ k_ ≠ gb113 ∧ k_ ≠ gb115) (.slice A114_6 ((rd_T48 l0_5 x17_1).f1.f5).length c114_6) ((rd_T48 l0_5 x17_1).f1.f5)):=⟨(by rw [hw];exact (by (with_reducible repeat (first|apply Kd.V_alloc|apply Kd.V_drewN|apply Kd.V_drew));exact Kd.V_mono (Kd.V_far (p:=⟨gb115,6,none⟩) (Kd.V_far (p:=⟨gb115,5,none⟩) (Kd.V_far (p:=⟨gb115,4,none⟩) (Kd.V_far (p:=⟨gb115,3,none⟩) (Kd.V_far (p:=⟨gb115,2,none⟩) (Kd.V_far (p:=⟨gb115,1,none⟩) (Kd.V_far (p:=⟨gb115,0,none⟩) (Kd.V_mono HL114_6.out (fun k_ hk=>(⟨hk,hk.2⟩ : _ ∧ k_ ≠ gb115))) (fun _ hk=>hk.2) (.string ((rd_T48 l0_5 x17_1).f0))) (fun _ hk=>hk.2) (.int .i64 ((rd_T48 l0_5 x17_1).f1.f0))) (fun _ hk=>hk.2) (.bool ((rd_T48 l0_5 x17_1).f1.f1))) (fun _ hk=>hk.2) (.int .i64 ((rd_T48 l0_5 x17_1).f1.f2))) (fun _ hk=>hk.2) (.string ((rd_T48 l0_5 x17_1).f1.f3))) (fun _ hk=>hk.2) (.slice A114_5 ((rd_T48 l0_5 x17_1).f1.f4).length c114_5)) (fun _ hk=>hk.2) (.slice A114_6 ((rd_T48 l0_5 x17_1).f1.f5).length c114_6)) (fun _ hk=>⟨hk.1.1.1,⟨hk.1.1.2.1,⟨hk.1.1.2.2,hk.1.2⟩⟩⟩)))⟩;have n6_ : Aside0 (w15.heap[gb113]? = some (.cells #[.int .i64 a0_0,.bool a0_1,.int .i64 a0_2,.string a0_3,.slice A0_4 l0_4.length c0_4,.slice (some ad114) l0_5.length c0_5] 29 (0,0))):=⟨(by rw [hw];exact (by (with_reducible repeat (first|apply blk_drewN|apply blk_drew|apply blk_alloc));refine blk_far ?_ NB113_115.out _;(with_reducible repeat (first|apply blk_drewN|apply blk_drew|apply blk_alloc));refine blk_far ?_ NB113_115.out _;(with_reducible repeat (first|apply blk_drewN|apply blk_drew|apply blk_alloc));refine blk_far ?_ NB113_115.out _;(with_reducible repeat (first|apply blk_drewN|apply blk_drew|apply blk_alloc));refine blk_far ?_ NB113_115.out _;(with_reducible repeat (first|apply blk_drewN|apply blk_drew|apply blk_alloc));refine blk_far ?_ NB113_115.out _;(with_reducible repeat (first|apply blk_drewN|apply blk_drew|apply blk_alloc));refine blk_far ?_ NB113_115.out _;(with_reducible repeat (first|apply blk_drewN|apply blk_drew|apply blk_alloc));refine blk_far ?_ NB113_115.out _;(with_reducible repeat (first|apply blk_drewN|apply blk_drew|apply blk_alloc));exact BK113.out))⟩;have n7_ : Aside0 (w15.heap[gb115]? = some (.cells #[.string ((rd_T48 l0_5 x17_1).f0),.int .i64 ((rd_T48 l0_5 x17_1).f1.f0),.bool ((rd_T48 l0_5 x17_1).f1.f1),.int .i64 ((rd_T48 l0_5 x17_1).f1.f2),.string ((rd_T48 l0_5 x17_1).f1.f3),.slice A114_5 ((rd_T48 l0_5 x17_1).f1.f4).length c114_5,.slice A114_6 ((rd_T48 l0_5 x17_1).f1.f5).length c114_6] 48 (0,0))):=⟨(by rw [hw];exact (by (with_reducible repeat (first|apply blk_drewN|apply blk_drew|apply blk_alloc));refine blk_put (cs:=#[.string ((rd_T48 l0_5 x17_1).f0),.int .i64 ((rd_T48 l0_5 x17_1).f1.f0),.bool ((rd_T48 l0_5 x17_1).f1.f1),.int .i64 ((rd_T48 l0_5 x17_1).f1.f2),.string ((rd_T48 l0_5 x17_1).f1.f3),.slice A114_5 ((rd_T48 l0_5 x17_1).f1.f4).length c114_5,.slice none 0 0]) ?_ 6 _ rfl;(with_reducible repeat (first|apply blk_drewN|apply blk_drew|apply blk_alloc));refine blk_put (cs:=#[.string ((rd_T48 l0_5 x17_1).f0),.int .i64 ((rd_T48 l0_5 x17_1).f1.f0),.bool ((rd_T48 l0_5 x17_1).f1.f1),.int .i64 ((rd_T48 l0_5 x17_1).f1.f2),.string ((rd_T48 l0_5 x17_1).f1.f3),.slice none 0 0,.slice none 0 0]) ?_ 5 _ rfl;(with_reducible repeat (first|apply blk_drewN|apply blk_drew|apply blk_alloc));refine blk_put (cs:=#[.string ((rd_T48 l0_5 x17_1).f0),.int .i64 ((rd_T48 l0_5 x17_1).f1.f0),.bool ((rd_T48 l0_5 x17_1).f1.f1),.int .i64 ((rd_T48 l0_5 x17_1).f1.f2),.string (⟨#[]⟩ : ByteArray),.slice none 0 0,.slice none 0 0]) ?_ 4 _ rfl;(with_reducible repeat (first|apply blk_drewN|apply blk_drew|apply blk_alloc));refine blk_put (cs:=#[.string ((rd_T48 l0_5 x17_1).f0),.int .i64 ((rd_T48 l0_5 x17_1).f1.f0),.bool ((rd_T48 l0_5 x17_1).f1.f1),.int .i64 0,.string (⟨#[]⟩ : ByteArray),.slice none 0 0,.slice none 0 0]) ?_ 3 _ rfl;(with_reducible repeat (first|apply blk_drewN|apply blk_drew|apply blk_alloc));refine blk_put (cs:=#[.string ((rd_T48 l0_5 x17_1).f0),.int .i64 ((rd_T48 l0_5 x17_1).f1.f0),.bool false,.int .i64 0,.string (⟨#[]⟩ : ByteArray),.slice none 0 0,.slice none 0 0]) ?_ 2 _ rfl;(with_reducible repeat (first|apply blk_drewN|apply blk_drew|apply blk_alloc));refine blk_put (cs:=#[.string ((rd_T48 l0_5 x17_1).f0),.int .i64 0,.bool false,.int .i64 0,.string (⟨#[]⟩ : ByteArray),.slice none 0 0,.slice none 0 0]) ?_ 1 _ rfl;(with_reducible repeat (first|apply blk_drewN|apply blk_drew|apply blk_alloc));refine blk_put (cs:=#[.string (⟨#[]⟩ : ByteArray),.int .i64 0,.bool false,.int .i64 0,.string (⟨#[]⟩ : ByteArray),.slice none 0 0,.slice none 0 0]) ?_ 0 _ rfl;(with_reducible repeat (first|apply blk_drewN|apply blk_drew|apply blk_alloc));exact BK115.out))⟩;have n8_ : Aside0 (Below w.heap.size w w15):=⟨(by rw [hw];exact (by repeat (first|(with_reducible first|exact HB.out|apply below_alloc|apply pw_below_drewN|apply below_drew1|refine below_set ?_ GE113.out|refine below_set ?_ GE115.out)|exact HB.out)))⟩;clear hw;clear HO_3;clear HO_15;clear HO_114004;clear HO_114005;clear HL114_5;clear HL114_6;clear BK113;clear BK115;clear HB;have HO_3:=n0_;have HO_15:=n1_;have HO_114004:=n2_;have HO_114005:=n3_;have HL114_5:=n4_;have HL114_6:=n5_;have BK113:=n6_;have BK115:=n7_;have HB:=n8_;clear n0_ n1_ n2_ n3_ n4_ n5_ n6_ n7_ n8_;have hcz16_0 : w15.cell? ⟨gb115,0,none⟩ = some (.string ((rd_T48 l0_5 x17_1).f0)):=(blk_cell BK115.out 0).trans rfl;have hcz16_1 : w15.cell? ⟨gb115,1,none⟩ = some (.int .i64 ((rd_T48 l0_5 x17_1).f1.f0)):=(blk_cell BK115.out 1).trans rfl;have hcz16_2 : w15.cell? ⟨gb115,2,none⟩ = some (.bool ((rd_T48 l0_5 x17_1).f1.f1)):=(blk_cell BK115.out 2).trans rfl;have hcz16_3 : w15.cell? ⟨gb115,3,none⟩ = some (.int .i64 ((rd_T48 l0_5 x17_1).f1.f2)):=(blk_cell BK115.out 3).trans rfl;have hcz16_4 : w15.cell? ⟨gb115,4,none⟩ = some (.string ((rd_T48 l0_5 x17_1).f1.f3)):=(blk_cell BK115.out 4).trans rfl;have hcz16_5 : w15.cell? ⟨gb115,5,none⟩ = some (.slice A114_5 ((rd_T48 l0_5 x17_1).f1.f4).length c114_5):=(blk_cell BK115.out 5).trans rfl;have hcz16_6 : w15.cell? ⟨gb115,6,none⟩ = some (.slice A114_6 ((rd_T48 l0_5 x17_1).f1.f5).length c114_6):=(blk_cell BK115.out 6).trans rfl;have hfz16_0:=blk_frozen BK115.out 0;have hfz16_1:=blk_frozen BK115.out 1;have hfz16_2:=blk_frozen BK115.out 2;have hfz16_3:=blk_frozen BK115.out 3;have hfz16_4:=blk_frozen BK115.out 4;have hfz16_5:=blk_frozen BK115.out 5;have hfz16_6:=blk_frozen BK115.out 6)|((with_reducible refine gate_builtin (b:=.append) (xs:=#[.tmp 21,.tmp 24]) rfl ?_);at_builtin;refine Kd.N_append k29 (w0:=w) w.heap.size rfl (.tmp 21) (.tmp 24) 26 29 (.agg #[(.int .i64 0),(.bool false),(.int .i64 0),(.string ⟨#[]⟩),(.slice none 0 0),(.slice none 0 0)]) 88 rfl Tryd.underlying26 info29 rfl (by decide) (by omega) u3 x3_1 (⟨(rd_T48 l0_5 x17_1).f1.f0,(rd_T48 l0_5 x17_1).f1.f1,(rd_T48 l0_5 x17_1).f1.f2,(rd_T48 l0_5 x17_1).f1.f3,(rd_T48 l0_5 x17_1).f1.f4,(rd_T48 l0_5 x17_1).f1.f5⟩ : S29) [.int .i64 ((rd_T48 l0_5 x17_1).f1.f0),.bool ((rd_T48 l0_5 x17_1).f1.f1),.int .i64 ((rd_T48 l0_5 x17_1).f1.f2),.string ((rd_T48 l0_5 x17_1).f1.f3),.slice A114_5 ((rd_T48 l0_5 x17_1).f1.f4).length c114_5,.slice A114_6 ((rd_T48 l0_5 x17_1).f1.f5).length c114_6] (fun k_=>((P0_4_ k_ ∨ P0_5_ k_) ∨ w.heap.size ≤ k_) ∧ k_ ≠ gb113 ∧ k_ ≠ gb115) (fun k_=>((fun k_=>((P0_4_ k_ ∨ P0_5_ k_) ∨ w.heap.size ≤ k_) ∧ k_ ≠ gb113 ∧ k_ ≠ gb115)) k_ ∧ some k_ ≠ (u3 : Value).ownBlock) rfl rfl ?aP (fun _ hk=>hk) ?aF ?aO ?aB ?aS ?aL ?_;(case aP=>exact (k29_mkF _ _ (⟨(rd_T48 l0_5 x17_1).f1.f0,(rd_T48 l0_5 x17_1).f1.f1,(rd_T48 l0_5 x17_1).f1.f2,(rd_T48 l0_5 x17_1).f1.f3,(rd_T48 l0_5 x17_1).f1.f4,(rd_T48 l0_5 x17_1).f1.f5⟩ : S29) (Kd.V_reads' (Kd.V_mono (ok':=(fun k_=>((fun k_=>((P0_4_ k_ ∨ P0_5_ k_) ∨ w.heap.size ≤ k_) ∧ k_ ≠ gb113 ∧ k_ ≠ gb115)) k_ ∧ some k_ ≠ (u3 : Value).ownBlock)) (HL114_5.out) (fun k_ hk=>⟨⟨hk.1,⟨hk.2.2.1,hk.2.2.2⟩⟩,hk.2.1⟩))).2.1 (Kd.V_F (Kd.V_mono (ok':=(fun k_=>((fun k_=>((P0_4_ k_ ∨ P0_5_ k_) ∨ w.heap.size ≤ k_) ∧ k_ ≠ gb113 ∧ k_ ≠ gb115)) k_ ∧ some k_ ≠ (u3 : Value).ownBlock)) (HL114_5.out) (fun k_ hk=>⟨⟨hk.1,⟨hk.2.2.1,hk.2.2.2⟩⟩,hk.2.1⟩))) (Kd.V_reads' (Kd.V_mono (ok':=(fun k_=>((fun k_=>((P0_4_ k_ ∨ P0_5_ k_) ∨ w.heap.size ≤ k_) ∧ k_ ≠ gb113 ∧ k_ ≠ gb115)) k_ ∧ some k_ ≠ (u3 : Value).ownBlock)) (HL114_6.out) (fun k_ hk=>⟨⟨hk.1,⟨hk.2.2.1,hk.2.2.2⟩⟩,hk.2.1⟩))).2.1 (Kd.V_F (Kd.V_mono (ok':=(fun k_=>((fun k_=>((P0_4_ k_ ∨ P0_5_ k_) ∨ w.heap.size ≤ k_) ∧ k_ ≠ gb113 ∧ k_ ≠ gb115)) k_ ∧ some k_ ≠ (u3 : Value).ownBlock)) (HL114_6.out) (fun k_ hk=>⟨⟨hk.1,⟨hk.2.2.1,hk.2.2.2⟩⟩,hk.2.1⟩)))));(case aB=>exact (by repeat (first|(with_reducible first|exact HB.out|apply below_alloc|apply pw_below_drewN|apply below_drew1|refine below_set ?_ GE113.out|refine below_set ?_ GE115.out)|exact HB.out)));(case aF=>exact (fun k_ hk=>⟨(.inr (Nat.le_trans (below_size (by repeat (first|(with_reducible first|exact HB.out|apply below_alloc|apply pw_below_drewN|apply below_drew1|refine below_set ?_ GE113.out|refine below_set ?_ GE115.out)|exact HB.out))) hk)),Kd.freshB (g:=gb113) (o:=.cells #[.int .i64 a0_0,.bool a0_1,.int .i64 a0_2,.string a0_3,.slice A0_4 l0_4.length c0_4,.slice (some ad114) l0_5.length c0_5] 29 (0,0)) (by (with_reducible repeat (first|apply blk_drewN|apply blk_drew|apply blk_alloc));exact BK113.out) k_ hk,Kd.freshB (g:=gb115) (o:=.cells #[.string ((rd_T48 l0_5 x17_1).f0),.int .i64 ((rd_T48 l0_5 x17_1).f1.f0),.bool ((rd_T48 l0_5 x17_1).f1.f1),.int .i64 ((rd_T48 l0_5 x17_1).f1.f2),.string ((rd_T48 l0_5 x17_1).f1.f3),.slice A114_5 ((rd_T48 l0_5 x17_1).f1.f4).length c114_5,.slice A114_6 ((rd_T48 l0_5 x17_1).f1.f5).length c114_6] 48 (0,0)) (by (with_reducible repeat (first|apply blk_drewN|apply blk_drew|apply blk_alloc));exact BK115.out) k_ hk⟩));(case aO=>exact (by (with_reducible repeat (first|apply Kd.N_alloc|apply Kd.N_drewN|apply Kd.N_drew));exact HO_3.out));(case aS=>exact (below_size (by repeat (first|(with_reducible first|exact HB.out|apply below_alloc|apply pw_below_drewN|apply below_drew1|refine below_set ?_ GE113.out|refine below_set ?_ GE115.out)|exact HB.out))));(case aL=>have:=LMc11.out;omega);intro v117 w17 ho hb hg hat;rw [← Ny116.out] at ho;have n0_:=Aside0.mk (Kd.V_afterv (ok:=(fun k_=>((P0_4_ k_ ∨ P0_5_ k_) ∨ w.heap.size ≤ k_) ∧ k_ ≠ gb113 ∧ k_ ≠ gb115)) (by (with_reducible repeat (first|apply Kd.V_alloc|apply Kd.V_drewN|apply Kd.V_drew));exact Kd.V_mono HO_15.out (fun _ hk=>⟨⟨hk.1,⟨hk.2.2.1,hk.2.2.2⟩⟩,hk.2.1⟩)) hg hat);have n1_:=Aside0.mk (Kd.V_afterv (ok:=(fun k_=>((P0_4_ k_ ∨ P0_5_ k_) ∨ w.heap.size ≤ k_) ∧ k_ ≠ gb113 ∧ k_ ≠ gb115)) (by (with_reducible repeat (first|apply Kd.V_alloc|apply Kd.V_drewN|apply Kd.V_drew));exact Kd.V_mono HO_114004.out (fun _ hk=>⟨⟨hk.1,⟨hk.2.2.1,hk.2.2.2⟩⟩,hk.2.1⟩)) hg hat);have n2_:=Aside0.mk (Kd.V_afterv (ok:=(fun k_=>((P0_4_ k_ ∨ P0_5_ k_) ∨ w.heap.size ≤ k_) ∧ k_ ≠ gb113 ∧ k_ ≠ gb115)) (by (with_reducible repeat (first|apply Kd.V_alloc|apply Kd.V_drewN|apply Kd.V_drew));exact Kd.V_mono HO_114005.out (fun _ hk=>⟨⟨hk.1,⟨hk.2.2.1,hk.2.2.2⟩⟩,hk.2.1⟩)) hg hat);have n3_:=Aside0.mk (blk_grown (g:=gb113) (o:=.cells #[.int .i64 a0_0,.bool a0_1,.int .i64 a0_2,.string a0_3,.slice A0_4 l0_4.length c0_4,.slice (some ad114) l0_5.length c0_5] 29 (0,0)) (by (with_reducible repeat (first|apply blk_drewN|apply blk_drew|apply blk_alloc));exact BK113.out) hg (Kd.N_away HO_3.out (fun _ hk=>hk.2.1)));have n4_:=Aside0.mk (Kd.V_afterv (ok:=(fun k_=>((P0_4_ k_ ∨ P0_5_ k_) ∨ w.heap.size ≤ k_) ∧ k_ ≠ gb113 ∧ k_ ≠ gb115)) (by (with_reducible repeat (first|apply Kd.V_alloc|apply Kd.V_drewN|apply Kd.V_drew));exact Kd.V_mono HL114_5.out (fun _ hk=>⟨⟨hk.1,⟨hk.2.2.1,hk.2.2.2⟩⟩,hk.2.1⟩)) hg hat);have n5_:=Aside0.mk (Kd.V_afterv (ok:=(fun k_=>((P0_4_ k_ ∨ P0_5_ k_) ∨ w.heap.size ≤ k_) ∧ k_ ≠ gb113 ∧ k_ ≠ gb115)) (by (with_reducible repeat (first|apply Kd.V_alloc|apply Kd.V_drewN|apply Kd.V_drew));exact Kd.V_mono HL114_6.out (fun _ hk=>⟨⟨hk.1,⟨hk.2.2.1,hk.2.2.2⟩⟩,hk.2.1⟩)) hg hat);have n6_:=Aside0.mk (blk_grown (g:=gb115) (o:=.cells #[.string ((rd_T48 l0_5 x17_1).f0),.int .i64 ((rd_T48 l0_5 x17_1).f1.f0),.bool ((rd_T48 l0_5 x17_1).f1.f1),.int .i64 ((rd_T48 l0_5 x17_1).f1.f2),.string ((rd_T48 l0_5 x17_1).f1.f3),.slice A114_5 ((rd_T48 l0_5 x17_1).f1.f4).length c114_5,.slice A114_6 ((rd_T48 l0_5 x17_1).f1.f5).length c114_6] 48 (0,0)) (by (with_reducible repeat (first|apply blk_drewN|apply blk_drew|apply blk_alloc));exact BK115.out) hg (Kd.N_ne HO_3.out BK115.out (by decide)));have n7_:=Aside0.mk (hb);have n8_:=Aside0.mk (ho);clear HO_15;clear HO_114004;clear HO_114005;clear BK113;clear HL114_5;clear HL114_6;clear BK115;clear HB;clear HO_3;have HO_15:=n0_;have HO_114004:=n1_;have HO_114005:=n2_;have BK113:=n3_;have HL114_5:=n4_;have HL114_6:=n5_;have BK115:=n6_;have HB:=n7_;have HO118:=n8_;clear n0_ n1_ n2_ n3_ n4_ n5_ n6_ n7_ n8_;clear ho hb hg hat))
         go_roundg k1
         case measure=>have:=HK1.out;omega
         case rel=>exact ⟨(y116),(wrap64 (x17_1 + 1)),(by first|rfl|(simp;done)|(simp [*];done)),H',⟨by have:=HK1.out;omega⟩,⟨by (with_reducible repeat (first|apply Kd.N_alloc|apply Kd.N_drewN|apply Kd.N_drew));exact Kd.N_mono HO118.out (fun _ hk=>⟨hk.1,hk.2.1⟩)⟩,⟨by (with_reducible repeat (first|apply Kd.V_alloc|apply Kd.V_drewN|apply Kd.V_drew));exact Kd.V_mono HO_15.out (fun _ hk=>⟨hk.1.1,⟨hk.2,hk.1.2.1⟩⟩)⟩,⟨by (with_reducible repeat (first|apply Kd.V_alloc|apply Kd.V_drewN|apply Kd.V_drew));exact Kd.V_mono HO_114004.out (fun _ hk=>⟨hk.1.1,⟨hk.2,hk.1.2.1⟩⟩)⟩,⟨by (with_reducible repeat (first|apply Kd.V_alloc|apply Kd.V_drewN|apply Kd.V_drew));exact Kd.V_mono HO_114005.out (fun _ hk=>⟨hk.1.1,⟨hk.2,hk.1.2.1⟩⟩)⟩,⟨by (with_reducible repeat (first|apply blk_drewN|apply blk_drew|apply blk_alloc));exact BK113.out⟩,⟨by repeat (first|(with_reducible first|exact HB.out|apply below_alloc|apply pw_below_drewN|apply below_drew1|refine below_set ?_ GE113.out|refine below_set ?_ GE115.out)|exact HB.out)⟩⟩
        ·rw [if_neg c11] at H
         exact absurd H (by simp)
       ·rw [if_neg c10] at H
        exact absurd H (by simp)
      ·rw [if_neg c9] at H
       exact absurd H (by simp)
     ·rw [if_neg c8] at H
      have c8b0 : decide (x17_1 < (l0_5.length : Int)) = false:=decide_eq_false c8
      clear c8
      obtain rfl:=Option.some.inj H
      go_wp2
      go_ret
      exact ⟨_,by first|rfl|(simp [errW_none,errW_some] <;> rfl)|(simp [*,errW_none,errW_some] <;> rfl),Kd.N_V (by (with_reducible repeat (first|apply Kd.N_alloc|apply Kd.N_drewN|apply Kd.N_drew));exact Kd.N_mono HO_3.out (fun _ hk=>hk.1)),by repeat (first|(with_reducible first|exact HB.out|apply below_alloc|apply pw_below_drewN|apply below_drew1|refine below_set ?_ GE113.out)|exact HB.out)⟩
  ·rw [if_neg c5] at H
   have c5b0 : (a0_0 == 5) = false:=beq_eq_false_iff_ne.mpr c5
   have c5b1 : (a0_0 != 5) = true:=bne_iff_ne.mpr c5
   obtain rfl:=Option.some.inj H
   go_enter Tryd.func36,Tryd.ntmps36
   go_wp2_with (first|((with_reducible refine gate_dst (N:=1) rfl ?_);refine box_event ?hg (N:=1) ?hd (cs:=#[.int .i64 a0_0,.bool a0_1,.int .i64 a0_2,.string a0_3,.slice A0_4 l0_4.length c0_4,.slice A0_5 l0_5.length c0_5]) (t:=29) ?hr ?_;(case hd=>rfl);(case hg=>rfl);(case hr=>first|(go_simp;done)|(go_simp;rfl));intro gb113 hg w18 hbox hb;have n0_:=Aside0.mk (Kd.V_below (Kd.V_elderB (by (with_reducible repeat (first|apply Kd.V_alloc|apply Kd.V_drewN|apply Kd.V_drew));exact HO0_4.out) gb113 (Nat.le_of_eq hg.symm)) hb);have n1_:=Aside0.mk (Kd.V_below (Kd.V_elderB (by (with_reducible repeat (first|apply Kd.V_alloc|apply Kd.V_drewN|apply Kd.V_drew));exact HO0_5.out) gb113 (Nat.le_of_eq hg.symm)) hb);have n2_:=Aside0.mk (below_step (by repeat (first|(with_reducible first|exact HB.out|apply below_alloc|apply pw_below_drewN|apply below_drew1)|exact HB.out)) hb);have n3_:=Aside0.mk (hbox);have n4_:=Aside0.mk ((by rw [hg];exact (below_size (by repeat (first|(with_reducible first|exact HB.out|apply below_alloc|apply pw_below_drewN|apply below_drew1)|exact HB.out))) : w.heap.size ≤ gb113));have n5_:=Aside0.mk ((by rw [hg];exact (below_size (by repeat (first|(with_reducible first|exact HB.out|apply below_alloc|apply pw_below_drewN|apply below_drew1)|exact HB.out))) : w.heap.size ≤ gb113));clear HO0_4;clear HO0_5;clear HB;have HO0_4:=n0_;have HO0_5:=n1_;have HB:=n2_;have BK113:=n3_;have GW113:=n4_;have GE113:=n5_;clear n0_ n1_ n2_ n3_ n4_ n5_;clear hb hbox hg;have hcz19_0 : w18.cell? ⟨gb113,0,none⟩ = some (.int .i64 a0_0):=(blk_cell BK113.out 0).trans rfl;have hcz19_1 : w18.cell? ⟨gb113,1,none⟩ = some (.bool a0_1):=(blk_cell BK113.out 1).trans rfl;have hcz19_2 : w18.cell? ⟨gb113,2,none⟩ = some (.int .i64 a0_2):=(blk_cell BK113.out 2).trans rfl;have hcz19_3 : w18.cell? ⟨gb113,3,none⟩ = some (.string a0_3):=(blk_cell BK113.out 3).trans rfl;have hcz19_4 : w18.cell? ⟨gb113,4,none⟩ = some (.slice A0_4 l0_4.length c0_4):=(blk_cell BK113.out 4).trans rfl;have hcz19_5 : w18.cell? ⟨gb113,5,none⟩ = some (.slice A0_5 l0_5.length c0_5):=(blk_cell BK113.out 5).trans rfl;have hfz19_0:=blk_frozen BK113.out 0;have hfz19_1:=blk_frozen BK113.out 1;have hfz19_2:=blk_frozen BK113.out 2;have hfz19_3:=blk_frozen BK113.out 3;have hfz19_4:=blk_frozen BK113.out 4;have hfz19_5:=blk_frozen BK113.out 5))
   go_ret
   exact ⟨_,by first|rfl|(simp [errW_none,errW_some] <;> rfl)|(simp [*,errW_none,errW_some] <;> rfl),(Kd.V_nil _ _ _ _ _),by repeat (first|(with_reducible first|exact HB.out|apply below_alloc|apply pw_below_drewN|apply below_drew1|refine below_set ?_ GE113.out)|exact HB.out)⟩

/-! ### value_Value_Depth: function 22 -/
mutual
def value_Value_Depth.j0 : Nat → Bool → Int → Bool → Int → ByteArray → List (S29) → List (S48) → Option (Int)
 | 0,_,_,_,_,_,_,_=>none
 | k + 1,x13,x120000,x120001,x120002,x120003,x120004,x120005=>if x13 = true then (some 0) else ((value_Value_parts.f k x120000 x120001 x120002 x120003 x120004 x120005).bind fun t120=>(value_Value_Depth.l0 k 0 t120 (t120.length : Int) 0))
def value_Value_Depth.l0 : Nat → Int → List (S29) → Int → Int → Option (Int)
 | 0,_,_,_,_=>none
 | k + 1,x3,x15,x16,x17=>if x17 < x16 then (if 0 ≤ x17 then (if x17 < (x15.length : Int) then ((value_Value_Depth.f k ((rd_T29 x15 x17).f0) ((rd_T29 x15 x17).f1) ((rd_T29 x15 x17).f2) ((rd_T29 x15 x17).f3) ((rd_T29 x15 x17).f4) ((rd_T29 x15 x17).f5)).bind fun t125=>(value_Value_Depth.l0 k (mx x3 t125) x15 x16 (wrap64 (x17 + 1)))) else (none)) else (none)) else (some (wrap64 (x3 + 1)))
def value_Value_Depth.f : Nat → Int → Bool → Int → ByteArray → List (S29) → List (S48) → Option (Int)
 | 0,_,_,_,_,_,_=>none
 | k + 1,a0_0,a0_1,a0_2,a0_3,l0_4,l0_5=>if a0_0 = 4 then (value_Value_Depth.j0 k false a0_0 a0_1 a0_2 a0_3 l0_4 l0_5) else (value_Value_Depth.j0 k (a0_0 != 5) a0_0 a0_1 a0_2 a0_3 l0_4 l0_5)
end
theorem value_Value_Depth.mono_l : ∀ k,(∀ y0 y1 y2 y3 y4 y5,LeO (value_Value_Depth.f k y0 y1 y2 y3 y4 y5) (value_Value_Depth.f (k + 1) y0 y1 y2 y3 y4 y5)) ∧ (∀ y0 y1 y2 y3 y4 y5 y6,LeO (value_Value_Depth.j0 k y0 y1 y2 y3 y4 y5 y6) (value_Value_Depth.j0 (k + 1) y0 y1 y2 y3 y4 y5 y6)) ∧ (∀ y0 y1 y2 y3,LeO (value_Value_Depth.l0 k y0 y1 y2 y3) (value_Value_Depth.l0 (k + 1) y0 y1 y2 y3))
 | 0=>⟨fun _ _ _ _ _ _ r h=>by simp [value_Value_Depth.f] at h,fun _ _ _ _ _ _ _ r h=>by simp [value_Value_Depth.j0] at h,fun _ _ _ _ r h=>by simp [value_Value_Depth.l0] at h⟩
 | k + 1=>by
  obtain ⟨ih0,ih1,ih2⟩:=value_Value_Depth.mono_l k
  refine ⟨?_,?_,?_⟩
  ·intro y0 y1 y2 y3 y4 y5
   unfold value_Value_Depth.f
   repeat' first
   | (with_reducible exact ih0 _ _ _ _ _ _)
   | (with_reducible exact ih1 _ _ _ _ _ _ _)
   | (with_reducible exact ih2 _ _ _ _)
   | (with_reducible exact value_Value_parts.mono _ _ _ _ _ _ _)
   | (with_reducible exact LeO.refl _)
   | (with_reducible exact LeO.none _)
   | (with_reducible refine LeO.ite ?_ ?_)
   | (with_reducible refine LeO.bind ?_ (fun _=>?_))
   | exact ih0 _ _ _ _ _ _
   | exact ih1 _ _ _ _ _ _ _
   | exact ih2 _ _ _ _
   | exact value_Value_parts.mono _ _ _ _ _ _ _
   | exact LeO.none _
   | refine LeO.ite ?_ ?_
   | refine LeO.bind ?_ (fun _=>?_)
  ·intro y0 y1 y2 y3 y4 y5 y6
   unfold value_Value_Depth.j0
   repeat' first
   | (with_reducible exact ih0 _ _ _ _ _ _)
   | (with_reducible exact ih1 _ _ _ _ _ _ _)
   | (with_reducible exact ih2 _ _ _ _)
   | (with_reducible exact value_Value_parts.mono _ _ _ _ _ _ _)
   | (with_reducible exact LeO.refl _)
   | (with_reducible exact LeO.none _)
   | (with_reducible refine LeO.ite ?_ ?_)
   | (with_reducible refine LeO.bind ?_ (fun _=>?_))
   | exact ih0 _ _ _ _ _ _
   | exact ih1 _ _ _ _ _ _ _
   | exact ih2 _ _ _ _
   | exact value_Value_parts.mono _ _ _ _ _ _ _
   | exact LeO.none _
   | refine LeO.ite ?_ ?_
   | refine LeO.bind ?_ (fun _=>?_)
  ·intro y0 y1 y2 y3
   unfold value_Value_Depth.l0
   repeat' first
   | (with_reducible exact ih0 _ _ _ _ _ _)
   | (with_reducible exact ih1 _ _ _ _ _ _ _)
   | (with_reducible exact ih2 _ _ _ _)
   | (with_reducible exact value_Value_parts.mono _ _ _ _ _ _ _)
   | (with_reducible exact LeO.refl _)
   | (with_reducible exact LeO.none _)
   | (with_reducible refine LeO.ite ?_ ?_)
   | (with_reducible refine LeO.bind ?_ (fun _=>?_))
   | exact ih0 _ _ _ _ _ _
   | exact ih1 _ _ _ _ _ _ _
   | exact ih2 _ _ _ _
   | exact value_Value_parts.mono _ _ _ _ _ _ _
   | exact LeO.none _
   | refine LeO.ite ?_ ?_
   | refine LeO.bind ?_ (fun _=>?_)
theorem value_Value_Depth.mono : ∀ a0 a1 a2 a3 a4 a5 k,LeO (value_Value_Depth.f k a0 a1 a2 a3 a4 a5) (value_Value_Depth.f (k + 1) a0 a1 a2 a3 a4 a5):=by
 intro a0 a1 a2 a3 a4 a5 k
 obtain ⟨ih0,ih1,ih2⟩:=value_Value_Depth.mono_l k
 exact ih0 a0 a1 a2 a3 a4 a5
set_option maxHeartbeats 8000000 in
set_option maxRecDepth 100000 in
theorem value_Value_Depth.calls (k : Nat) : ∀ (a0_0 : Int) (a0_1 : Bool) (a0_2 : Int) (a0_3 : ByteArray) (A0_4 : Option Addr) (c0_4 : Nat) (l0_4 : List (S29)) (A0_5 : Option Addr) (c0_5 : Nat) (l0_5 : List (S48)) (r : Int) (w : World) (hr0_4 : Kd.C k29 w A0_4 l0_4.length l0_4) (hc0_4 : l0_4.length ≤ c0_4) (hr0_5 : Kd.C k48 w A0_5 l0_5.length l0_5) (hc0_5 : l0_5.length ≤ c0_5) (h : value_Value_Depth.f k a0_0 a0_1 a0_2 a0_3 l0_4 l0_5 = some r),
  Calls Tryd.prog 22 #[.agg #[.int .i64 a0_0,.bool a0_1,.int .i64 a0_2,.string a0_3,.slice A0_4 l0_4.length c0_4,.slice A0_5 l0_5.length c0_5]] w fun e w'=>e = .returned (.int .i64 r) ∧ Below w.heap.size w w':=by
 induction k using Nat.strongRecOn with
 | _ k ih =>
 intro a0_0 a0_1 a0_2 a0_3 A0_4 c0_4 l0_4 A0_5 c0_5 l0_5 r w hr0_4 hc0_4 hr0_5 hc0_5 h
 cases k with
 | zero=>exact absurd h (by simp [value_Value_Depth.f])
 | succ k =>
 simp only [value_Value_Depth.f] at h
 have hu29:=Tryd.underlying29
 have HR0_4:=Aside0.mk hr0_4
 have HC0_4:=Aside0.mk hc0_4
 clear hr0_4 hc0_4
 have HR0_5:=Aside0.mk hr0_5
 have HC0_5:=Aside0.mk hc0_5
 clear hr0_5 hc0_5
 have HB:=Aside0.mk (Below.refl w.heap.size w)
 have H : (if a0_0 = 4 then (value_Value_Depth.j0 k false a0_0 a0_1 a0_2 a0_3 l0_4 l0_5) else (value_Value_Depth.j0 k (a0_0 != 5) a0_0 a0_1 a0_2 a0_3 l0_4 l0_5)) = some r:=h
 clear h
 have HC2:=Aside0.mk H
 clear H
 go_enter Tryd.func22,Tryd.ntmps22
 go_upto_region 1 with (first|((with_reducible refine gate_dst (N:=1) rfl ?_);refine box_event ?hg (N:=1) ?hd (cs:=#[.int .i64 a0_0,.bool a0_1,.int .i64 a0_2,.string a0_3,.slice A0_4 l0_4.length c0_4,.slice A0_5 l0_5.length c0_5]) (t:=29) ?hr ?_;(case hd=>rfl);(case hg=>rfl);(case hr=>first|(go_simp;done)|(go_simp;rfl));intro gb119 hg w3 hbox hb;have n0_:=Aside0.mk (below_step (by repeat (first|(with_reducible first|exact HB.out|apply below_alloc|apply pw_below_drewN|apply below_drew1)|exact HB.out)) hb);have n1_:=Aside0.mk (hbox);have n2_:=Aside0.mk ((by rw [hg];exact (below_size (by repeat (first|(with_reducible first|exact HB.out|apply below_alloc|apply pw_below_drewN|apply below_drew1)|exact HB.out))) : w.heap.size ≤ gb119));have n3_:=Aside0.mk ((by rw [hg];exact (below_size (by repeat (first|(with_reducible first|exact HB.out|apply below_alloc|apply pw_below_drewN|apply below_drew1)|exact HB.out))) : w.heap.size ≤ gb119));clear HB;have HB:=n0_;have BK119:=n1_;have GW119:=n2_;have GE119:=n3_;clear n0_ n1_ n2_ n3_;clear hb hbox hg))
 (try simp only [Act.put,List.setIfInBounds_toArray,List.set_cons_zero,List.set_cons_succ])
 go_cut [13] (fun v13 wc=>∃ (kq : Nat) (x13_1 : Bool),v13 = .bool x13_1 ∧ Aside0 (value_Value_Depth.j0 kq x13_1 a0_0 a0_1 a0_2 a0_3 l0_4 l0_5 = some r) ∧ Aside0 (kq ≤ k) ∧ Aside0 (wc.heap[gb119]? = some (.cells #[.int .i64 a0_0,.bool a0_1,.int .i64 a0_2,.string a0_3,(.slice A0_4 l0_4.length c0_4),(.slice A0_5 l0_5.length c0_5)] 29 (0,0))) ∧ Aside0 (Below w.heap.size w wc))
 case first =>
  have H:=HC2.out
  clear HC2
  by_cases c4 : a0_0 = 4
  ·rw [if_pos c4] at H
   have c4b0 : (a0_0 == 4) = true:=beq_iff_eq.mpr c4
   have c4b1 : (a0_0 != 4) = false:=bne_eq_false_iff_eq.mpr c4
   clear c4
   (first|rw [c4b0]|(simp only [i64_w,i32_w];rw [c4b0])|skip)
   have H':=Aside0.mk H
   clear H
   have hcz5_0 : w3.cell? ⟨gb119,0,none⟩ = some (.int .i64 a0_0):=(blk_cell BK119.out 0).trans rfl
   have hcz5_1 : w3.cell? ⟨gb119,1,none⟩ = some (.bool a0_1):=(blk_cell BK119.out 1).trans rfl
   have hcz5_2 : w3.cell? ⟨gb119,2,none⟩ = some (.int .i64 a0_2):=(blk_cell BK119.out 2).trans rfl
   have hcz5_3 : w3.cell? ⟨gb119,3,none⟩ = some (.string a0_3):=(blk_cell BK119.out 3).trans rfl
   have hcz5_4 : w3.cell? ⟨gb119,4,none⟩ = some (.slice A0_4 l0_4.length c0_4):=(blk_cell BK119.out 4).trans rfl
   have hcz5_5 : w3.cell? ⟨gb119,5,none⟩ = some (.slice A0_5 l0_5.length c0_5):=(blk_cell BK119.out 5).trans rfl
   have hfz5_0:=blk_frozen BK119.out 0
   have hfz5_1:=blk_frozen BK119.out 1
   have hfz5_2:=blk_frozen BK119.out 2
   have hfz5_3:=blk_frozen BK119.out 3
   have hfz5_4:=blk_frozen BK119.out 4
   have hfz5_5:=blk_frozen BK119.out 5
   go_wp2
   go_meet
   case rel=>exact ⟨_,(false),(by first|rfl|(simp;done)|(simp [*];done)),H',⟨by first|omega|exact Nat.le_refl _⟩,⟨by (with_reducible repeat (first|apply blk_drewN|apply blk_drew|apply blk_alloc));exact BK119.out⟩,⟨by repeat (first|(with_reducible first|exact HB.out|apply below_alloc|apply pw_below_drewN|apply below_drew1|refine below_set ?_ GE119.out)|exact HB.out)⟩⟩
  ·rw [if_neg c4] at H
   have c4b0 : (a0_0 == 4) = false:=beq_eq_false_iff_ne.mpr c4
   have c4b1 : (a0_0 != 4) = true:=bne_iff_ne.mpr c4
   (first|rw [c4b0]|(simp only [i64_w,i32_w];rw [c4b0])|skip)
   have H':=Aside0.mk H
   clear H
   have hcz6_0 : w3.cell? ⟨gb119,0,none⟩ = some (.int .i64 a0_0):=(blk_cell BK119.out 0).trans rfl
   have hcz6_1 : w3.cell? ⟨gb119,1,none⟩ = some (.bool a0_1):=(blk_cell BK119.out 1).trans rfl
   have hcz6_2 : w3.cell? ⟨gb119,2,none⟩ = some (.int .i64 a0_2):=(blk_cell BK119.out 2).trans rfl
   have hcz6_3 : w3.cell? ⟨gb119,3,none⟩ = some (.string a0_3):=(blk_cell BK119.out 3).trans rfl
   have hcz6_4 : w3.cell? ⟨gb119,4,none⟩ = some (.slice A0_4 l0_4.length c0_4):=(blk_cell BK119.out 4).trans rfl
   have hcz6_5 : w3.cell? ⟨gb119,5,none⟩ = some (.slice A0_5 l0_5.length c0_5):=(blk_cell BK119.out 5).trans rfl
   have hfz6_0:=blk_frozen BK119.out 0
   have hfz6_1:=blk_frozen BK119.out 1
   have hfz6_2:=blk_frozen BK119.out 2
   have hfz6_3:=blk_frozen BK119.out 3
   have hfz6_4:=blk_frozen BK119.out 4
   have hfz6_5:=blk_frozen BK119.out 5
   go_wp2
   go_meet
   case rel=>exact ⟨_,((a0_0 != 5)),(by first|rfl|(simp;done)|(simp [*];done)),H',⟨by first|omega|exact Nat.le_refl _⟩,⟨by (with_reducible repeat (first|apply blk_drewN|apply blk_drew|apply blk_alloc));exact BK119.out⟩,⟨by repeat (first|(with_reducible first|exact HB.out|apply below_alloc|apply pw_below_drewN|apply below_drew1|refine below_set ?_ GE119.out)|exact HB.out)⟩⟩
 case rest =>
  clear HC2
  try clear c2
  try clear p2
  try clear c4
  try clear c4b0
  try clear c4b1
  try clear hcz5_0
  try clear hcz5_1
  try clear hcz5_2
  try clear hcz5_3
  try clear hcz5_4
  try clear hcz5_5
  try clear hcz6_0
  try clear hcz6_1
  try clear hcz6_2
  try clear hcz6_3
  try clear hcz6_4
  try clear hcz6_5
  try clear hfz5_0
  try clear hfz5_1
  try clear hfz5_2
  try clear hfz5_3
  try clear hfz5_4
  try clear hfz5_5
  try clear hfz6_0
  try clear hfz6_1
  try clear hfz6_2
  try clear hfz6_3
  try clear hfz6_4
  try clear hfz6_5
  obtain ⟨kq,x13_1,rfl,HA,HJ1,BK119,HB⟩:=hcut
  cases kq with
  | zero=>exact absurd HA.out (by simp [value_Value_Depth.j0])
  | succ kj1 =>
   have H:=HA.out
   clear HA
   simp only [value_Value_Depth.j0] at H
   by_cases c7 : x13_1 = true
   ·subst c7
    have H1 : (some 0) = some r:=by rw [if_pos rfl] at H;exact H
    clear H
    have H:=H1
    clear H1
    obtain rfl:=Option.some.inj H
    go_wp2
    go_ret
    exact ⟨by first|rfl|(simp [errW_none,errW_some] <;> rfl)|(simp [*,errW_none,errW_some] <;> rfl),by repeat (first|(with_reducible first|exact HB.out|apply below_alloc|apply pw_below_drewN|apply below_drew1|refine below_set ?_ GE119.out)|exact HB.out)⟩
   ·replace c7:=Bool.eq_false_iff.mpr c7
    subst c7
    have H1 : ((value_Value_parts.f kj1 a0_0 a0_1 a0_2 a0_3 l0_4 l0_5).bind fun t120=>(value_Value_Depth.l0 kj1 0 t120 (t120.length : Int) 0)) = some r:=by rw [if_neg (show ¬ (false = true) by decide)] at H;exact H
    clear H
    have H:=H1
    clear H1
    replace H:=Option.bind_eq_some_iff.mp H
    obtain ⟨t120,A80,H⟩:=H
    replace H : (value_Value_Depth.l0 kj1 0 t120 (t120.length : Int) 0) = some r:=H
    have A8:=Aside0.mk A80
    clear A80
    have H':=Aside0.mk H
    clear H
    have hcz9_0 : wc.cell? ⟨gb119,0,none⟩ = some (.int .i64 a0_0):=(blk_cell BK119.out 0).trans rfl
    have hcz9_1 : wc.cell? ⟨gb119,1,none⟩ = some (.bool a0_1):=(blk_cell BK119.out 1).trans rfl
    have hcz9_2 : wc.cell? ⟨gb119,2,none⟩ = some (.int .i64 a0_2):=(blk_cell BK119.out 2).trans rfl
    have hcz9_3 : wc.cell? ⟨gb119,3,none⟩ = some (.string a0_3):=(blk_cell BK119.out 3).trans rfl
    have hcz9_4 : wc.cell? ⟨gb119,4,none⟩ = some (.slice A0_4 l0_4.length c0_4):=(blk_cell BK119.out 4).trans rfl
    have hcz9_5 : wc.cell? ⟨gb119,5,none⟩ = some (.slice A0_5 l0_5.length c0_5):=(blk_cell BK119.out 5).trans rfl
    have hfz9_0:=blk_frozen BK119.out 0
    have hfz9_1:=blk_frozen BK119.out 1
    have hfz9_2:=blk_frozen BK119.out 2
    have hfz9_3:=blk_frozen BK119.out 3
    have hfz9_4:=blk_frozen BK119.out 4
    have hfz9_5:=blk_frozen BK119.out 5
    go_wp2_with (first|((with_reducible refine gate_callee (f:=36) rfl ?_);refine goesL_ (some 15) rfl rfl Tryd.func36 (by kernel_rfl) rfl #[.agg #[.int .i64 a0_0,.bool a0_1,.int .i64 a0_2,.string a0_3,.slice A0_4 l0_4.length c0_4,.slice A0_5 l0_5.length c0_5]] rfl (by (try simp only [List.map_toArray,List.map_cons,List.map_nil]);first|done|rfl|(simp only [List.length_drop,List.length_take];rfl)|(simp (disch:=first|omega|(simp at *;omega)) only [u64_id,i64_id,u8_id];rfl)) ?_;(with_reducible refine (value_Value_parts.calls kj1 a0_0 a0_1 a0_2 a0_3 (fun k_=>k_ < w.heap.size) _ _ l0_4 (fun k_=>k_ < w.heap.size) _ _ l0_5 t120 _ ?side1 ?side2 A8.out).mono ?_);(case side1=>exact Kd.V_mk HC0_4.out (Kd.F_below (Kd.C_F k29_heap HR0_4.out) (by repeat (first|(with_reducible first|exact HB.out|apply below_alloc|apply pw_below_drewN|apply below_drew1|refine below_set ?_ GE119.out)|exact HB.out))));(case side2=>exact Kd.V_mk HC0_5.out (Kd.F_below (Kd.C_F k48_heap HR0_5.out) (by repeat (first|(with_reducible first|exact HB.out|apply below_alloc|apply pw_below_drewN|apply below_drew1|refine below_set ?_ GE119.out)|exact HB.out))));rintro e w10 ⟨v121,rfl,ho0,hb⟩;refine ⟨_,rfl,?_⟩;have n0_:=Aside0.mk (Kd.V_lower (Kd.V_mono (ok':=fun k_=>k_ ≠ gb119) ho0 (fun k_ hk_=>Or.elim hk_ (fun hs_=>Or.elim hs_ (fun hs_=>fun e_=>Nat.not_le.2 hs_ (by rw [e_];exact GW119.out)) (fun hs_=>fun e_=>Nat.not_le.2 hs_ (by rw [e_];exact GW119.out))) (fun hn_=>(Kd.freshB (g:=gb119) (o:=.cells #[.int .i64 a0_0,.bool a0_1,.int .i64 a0_2,.string a0_3,.slice A0_4 l0_4.length c0_4,.slice A0_5 l0_5.length c0_5] 29 (0,0)) (by (with_reducible repeat (first|apply blk_drewN|apply blk_drew|apply blk_alloc));exact BK119.out) k_ hn_)))) (below_size (by repeat (first|(with_reducible first|exact HB.out|apply below_alloc|apply pw_below_drewN|apply below_drew1|refine below_set ?_ GE119.out)|exact HB.out))));have n1_:=Aside0.mk (blk_below (g:=gb119) (o:=.cells #[.int .i64 a0_0,.bool a0_1,.int .i64 a0_2,.string a0_3,.slice A0_4 l0_4.length c0_4,.slice A0_5 l0_5.length c0_5] 29 (0,0)) (by (with_reducible repeat (first|apply blk_drewN|apply blk_drew|apply blk_alloc));exact BK119.out) hb);have n2_:=Aside0.mk (below_step (by repeat (first|(with_reducible first|exact HB.out|apply below_alloc|apply pw_below_drewN|apply below_drew1|refine below_set ?_ GE119.out)|exact HB.out)) hb);clear BK119;clear HB;have HO122:=n0_;have BK119:=n1_;have HB:=n2_;clear n0_ n1_ n2_;(try clear hb);(try clear hb2);(try clear hk);(try clear hi);(try clear ho0);obtain ⟨Ao11,co11,eo11⟩:=Kd.V_slice HO122.out;subst eo11))
    go_loopg [3,17] kj1 (fun kq v3 v17 w'=>∃ (x3_2 : Int) (x17_2 : Int),v3 = .int .i64 x3_2 ∧ v17 = .int .i64 x17_2 ∧ Aside0 (value_Value_Depth.l0 kq x3_2 t120 (t120.length : Int) x17_2 = some r) ∧ Aside0 (kq ≤ kj1) ∧ Aside0 (Kd.V k29 29 w' w.heap.size (fun k_=>k_ ≠ gb119) (.slice Ao11 t120.length co11) t120) ∧ Aside0 (w'.heap[gb119]? = some (.cells #[.int .i64 a0_0,.bool a0_1,.int .i64 a0_2,.string a0_3,(.slice A0_4 l0_4.length c0_4),(.slice A0_5 l0_5.length c0_5)] 29 (0,0))) ∧ Aside0 (Below w.heap.size w w'))
    case atStart=>exact ⟨(0),(0),(by first|rfl|(simp;done)|(simp [*];done)),(by first|rfl|(simp;done)|(simp [*];done)),H',⟨Nat.le_refl _⟩,⟨by (with_reducible repeat (first|apply Kd.V_alloc|apply Kd.V_drewN|apply Kd.V_drew));exact HO122.out⟩,⟨by (with_reducible repeat (first|apply blk_drewN|apply blk_drew|apply blk_alloc));exact BK119.out⟩,⟨by repeat (first|(with_reducible first|exact HB.out|apply below_alloc|apply pw_below_drewN|apply below_drew1|refine below_set ?_ GE119.out)|exact HB.out)⟩⟩
    case round =>
     clear H'
     try clear c2
     try clear p2
     try clear c3
     try clear c4
     try clear c4b0
     try clear c4b1
     try clear c7
     try clear hcz5_0
     try clear hcz5_1
     try clear hcz5_2
     try clear hcz5_3
     try clear hcz5_4
     try clear hcz5_5
     try clear hcz6_0
     try clear hcz6_1
     try clear hcz6_2
     try clear hcz6_3
     try clear hcz6_4
     try clear hcz6_5
     try clear hcz9_0
     try clear hcz9_1
     try clear hcz9_2
     try clear hcz9_3
     try clear hcz9_4
     try clear hcz9_5
     try clear hfz5_0
     try clear hfz5_1
     try clear hfz5_2
     try clear hfz5_3
     try clear hfz5_4
     try clear hfz5_5
     try clear hfz6_0
     try clear hfz6_1
     try clear hfz6_2
     try clear hfz6_3
     try clear hfz6_4
     try clear hfz6_5
     try clear hfz9_0
     try clear hfz9_1
     try clear hfz9_2
     try clear hfz9_3
     try clear hfz9_4
     try clear hfz9_5
     try clear p2
     obtain ⟨x3_2,x17_2,rfl,rfl,HA,HK2,HO_15,BK119,HB⟩:=hrel
     cases gk with
     | zero=>exact absurd HA.out (by simp [value_Value_Depth.l0])
     | succ k2 =>
      have H:=HA.out
      clear HA
      simp only [value_Value_Depth.l0] at H
      by_cases c12 : x17_2 < (t120.length : Int)
      ·rw [if_pos c12] at H
       have c12b0 : decide (x17_2 < (t120.length : Int)) = true:=decide_eq_true c12
       clear c12
       by_cases c13 : 0 ≤ x17_2
       ·rw [if_pos c13] at H
        have c13b0 : decide (0 ≤ x17_2) = true:=decide_eq_true c13
        clear c13
        by_cases c14 : x17_2 < (t120.length : Int)
        ·rw [if_pos c14] at H
         have c14b0 : decide (x17_2 < (t120.length : Int)) = true:=decide_eq_true c14
         clear c14
         replace H:=Option.bind_eq_some_iff.mp H
         obtain ⟨t125,A150,H⟩:=H
         replace H : (value_Value_Depth.l0 k2 (mx x3_2 t125) t120 (t120.length : Int) (wrap64 (x17_2 + 1))) = some r:=H
         have A15:=Aside0.mk A150
         clear A150
         obtain ⟨ji16,hji16⟩ : ∃ j_ : Int,(mx x3_2 t125) = j_:=⟨_,rfl⟩
         replace H : (value_Value_Depth.l0 k2 ji16 t120 (t120.length : Int) (wrap64 (x17_2 + 1))) = some r:=by first|(rw [hji16] at H;exact H)|(simp only [hji16] at H ⊢;exact H)
         (try rw [hji16] at A15)
         have hji16_ : (if x3_2 < t125 then t125 else x3_2) = ji16:=hji16
         have H':=Aside0.mk H
         clear H
         have p123 : 0 ≤ (x17_2 : Int):=of_decide_eq_true (by first|(with_reducible assumption)|assumption)
         have q123 : x17_2 < (t120.length : Int):=of_decide_eq_true (by first|(with_reducible assumption)|assumption)
         obtain ⟨ad123,A123_4,c123_4,A123_5,c123_5,e123,hx123_0,hx123_1,hx123_2,hx123_3,hx123_4,hx123_5,hl123_4,hi123_4,hl123_5,hi123_5⟩:=at_T29 (Kd.V_reads' HO_15.out).2.2 x17_2 p123 q123
         cases e123
         obtain ⟨ce123,hce123,hMe123,hcc123⟩:=Kd.V_get HO_15.out z29 x17_2 p123 (by first|exact q123|exact of_decide_eq_true (by first|(with_reducible assumption)|assumption)|(have e_:=(Kd.V_reads' HO_15.out).1;omega))
         obtain ⟨ua123_4,uc123_4,ua123_5,uc123_5,rfl,ul123_4,ge123_4,ul123_5,ge123_5⟩:=k29_openF hMe123
         have hv123_4:=hcc123 4 _ rfl
         rw [add_field _ _ 4 (by omega)] at hv123_4
         replace hv123_4:=Option.some.inj (hv123_4.symm.trans hx123_4)
         injection hv123_4 with hva_ hvn_ hvc_
         rw [hva_] at ge123_4
         rw [hvc_] at ul123_4
         have HL123_4:=Aside0.mk (show Kd.V k29 29 _ w.heap.size _ _ ((rd_T29 t120 x17_2).f4) from Kd.V_mk ul123_4 ge123_4)
         clear hva_ hvn_ hvc_ ge123_4 ul123_4
         have hv123_5:=hcc123 5 _ rfl
         rw [add_field _ _ 5 (by omega)] at hv123_5
         replace hv123_5:=Option.some.inj (hv123_5.symm.trans hx123_5)
         injection hv123_5 with hva_ hvn_ hvc_
         rw [hva_] at ge123_5
         rw [hvc_] at ul123_5
         have HL123_5:=Aside0.mk (show Kd.V k48 48 _ w.heap.size _ _ ((rd_T29 t120 x17_2).f5) from Kd.V_mk ul123_5 ge123_5)
         clear hva_ hvn_ hvc_ ge123_5 ul123_5
         clear hcc123 hce123
         have HR123_4:=Aside0.mk hi123_4
         have HC123_4:=Aside0.mk hl123_4
         clear hi123_4 hl123_4
         have HR123_5:=Aside0.mk hi123_5
         have HC123_5:=Aside0.mk hl123_5
         clear hi123_5 hl123_5
         replace p123:=eq_true p123
         replace q123:=eq_true q123
         go_wp2_with (first|((with_reducible refine gate_dst (N:=5) rfl ?_);refine box_event ?hg (N:=5) ?hd (cs:=#[.int .i64 0,.bool false,.int .i64 0,.string (⟨#[]⟩ : ByteArray),.slice none 0 0,.slice none 0 0]) (t:=29) ?hr ?_;(case hd=>rfl);(case hg=>rfl);(case hr=>first|(go_simp;done)|(go_simp;rfl));intro gb124 hg w17 hbox hb;have n0_:=Aside0.mk (Kd.V_below (Kd.V_elderB (by (with_reducible repeat (first|apply Kd.V_alloc|apply Kd.V_drewN|apply Kd.V_drew));exact HO_15.out) gb124 (Nat.le_of_eq hg.symm)) hb);have n1_:=Aside0.mk (Kd.V_below (Kd.V_elderB (by (with_reducible repeat (first|apply Kd.V_alloc|apply Kd.V_drewN|apply Kd.V_drew));exact HL123_4.out) gb124 (Nat.le_of_eq hg.symm)) hb);have n2_:=Aside0.mk (Kd.V_below (Kd.V_elderB (by (with_reducible repeat (first|apply Kd.V_alloc|apply Kd.V_drewN|apply Kd.V_drew));exact HL123_5.out) gb124 (Nat.le_of_eq hg.symm)) hb);have n3_:=Aside0.mk (blk_below (g:=gb119) (o:=.cells #[.int .i64 a0_0,.bool a0_1,.int .i64 a0_2,.string a0_3,.slice A0_4 l0_4.length c0_4,.slice A0_5 l0_5.length c0_5] 29 (0,0)) (by (with_reducible repeat (first|apply blk_drewN|apply blk_drew|apply blk_alloc));exact BK119.out) hb);have n4_:=Aside0.mk (Kd.C_below (by repeat (first|(with_reducible exact HR123_4.out)|(with_reducible refine Kd.C_alloc ?_ _)|(with_reducible refine Kd.C_drewN ?_ _)|(with_reducible refine Kd.C_drew ?_)|exact HR123_4.out)) hb);have n5_:=Aside0.mk (Kd.C_below (by repeat (first|(with_reducible exact HR123_5.out)|(with_reducible refine Kd.C_alloc ?_ _)|(with_reducible refine Kd.C_drewN ?_ _)|(with_reducible refine Kd.C_drew ?_)|exact HR123_5.out)) hb);have n6_:=Aside0.mk (below_step (by repeat (first|(with_reducible first|exact HB.out|apply below_alloc|apply pw_below_drewN|apply below_drew1|refine below_set ?_ GE119.out)|exact HB.out)) hb);have n7_:=Aside0.mk (hbox);have n8_:=Aside0.mk ((by rw [hg];exact (below_size (by repeat (first|(with_reducible first|exact HB.out|apply below_alloc|apply pw_below_drewN|apply below_drew1|refine below_set ?_ GE119.out)|exact HB.out))) : w.heap.size ≤ gb124));have n9_:=Aside0.mk ((by rw [hg];exact (below_size (by repeat (first|(with_reducible first|exact HB.out|apply below_alloc|apply pw_below_drewN|apply below_drew1|refine below_set ?_ GE119.out)|exact HB.out))) : w.heap.size ≤ gb124));have n10_:=Aside0.mk ((by rw [hg];exact Nat.ne_of_lt (blk_lt (g:=gb119) (o:=.cells #[.int .i64 a0_0,.bool a0_1,.int .i64 a0_2,.string a0_3,.slice A0_4 l0_4.length c0_4,.slice A0_5 l0_5.length c0_5] 29 (0,0)) (by (with_reducible repeat (first|apply blk_drewN|apply blk_drew|apply blk_alloc));exact BK119.out)) : gb119 ≠ gb124));have n11_:=Aside0.mk ((by rw [hg];exact Nat.ne_of_gt (blk_lt (g:=gb119) (o:=.cells #[.int .i64 a0_0,.bool a0_1,.int .i64 a0_2,.string a0_3,.slice A0_4 l0_4.length c0_4,.slice A0_5 l0_5.length c0_5] 29 (0,0)) (by (with_reducible repeat (first|apply blk_drewN|apply blk_drew|apply blk_alloc));exact BK119.out)) : gb124 ≠ gb119));clear HO_15;clear HL123_4;clear HL123_5;clear BK119;clear HR123_4;clear HR123_5;clear HB;have HO_15:=n0_;have HL123_4:=n1_;have HL123_5:=n2_;have BK119:=n3_;have HR123_4:=n4_;have HR123_5:=n5_;have HB:=n6_;have BK124:=n7_;have GW124:=n8_;have GE124:=n9_;have NB119_124:=n10_;have NB124_119:=n11_;clear n0_ n1_ n2_ n3_ n4_ n5_ n6_ n7_ n8_ n9_ n10_ n11_;clear hb hbox hg;have hnb18:=NB124_119.out;have hnc18:=NB119_124.out;have hcz19_0 : w17.cell? ⟨gb124,0,none⟩ = some (.int .i64 0):=(blk_cell BK124.out 0).trans rfl;have hcz19_1 : w17.cell? ⟨gb124,1,none⟩ = some (.bool false):=(blk_cell BK124.out 1).trans rfl;have hcz19_2 : w17.cell? ⟨gb124,2,none⟩ = some (.int .i64 0):=(blk_cell BK124.out 2).trans rfl;have hcz19_3 : w17.cell? ⟨gb124,3,none⟩ = some (.string (⟨#[]⟩ : ByteArray)):=(blk_cell BK124.out 3).trans rfl;have hcz19_4 : w17.cell? ⟨gb124,4,none⟩ = some (.slice none 0 0):=(blk_cell BK124.out 4).trans rfl;have hcz19_5 : w17.cell? ⟨gb124,5,none⟩ = some (.slice none 0 0):=(blk_cell BK124.out 5).trans rfl;have hfz19_0:=blk_frozen BK124.out 0;have hfz19_1:=blk_frozen BK124.out 1;have hfz19_2:=blk_frozen BK124.out 2;have hfz19_3:=blk_frozen BK124.out 3;have hfz19_4:=blk_frozen BK124.out 4;have hfz19_5:=blk_frozen BK124.out 5)|((with_reducible refine gate_callee (f:=22) rfl ?_);refine goesL_ (some 23) rfl rfl Tryd.func22 (by kernel_rfl) rfl #[.agg #[.int .i64 ((rd_T29 t120 x17_2).f0),.bool ((rd_T29 t120 x17_2).f1),.int .i64 ((rd_T29 t120 x17_2).f2),.string ((rd_T29 t120 x17_2).f3),.slice A123_4 ((rd_T29 t120 x17_2).f4).length c123_4,.slice A123_5 ((rd_T29 t120 x17_2).f5).length c123_5]] rfl (by (try simp only [List.map_toArray,List.map_cons,List.map_nil]);first|done|rfl|(simp only [List.length_drop,List.length_take];rfl)|(simp (disch:=first|omega|(simp at *;omega)) only [u64_id,i64_id,u8_id];rfl)) ?_;(with_reducible refine (ih k2 (by have:=HJ1.out;have:=HK2.out;omega) ((rd_T29 t120 x17_2).f0) ((rd_T29 t120 x17_2).f1) ((rd_T29 t120 x17_2).f2) ((rd_T29 t120 x17_2).f3) _ _ ((rd_T29 t120 x17_2).f4) _ _ ((rd_T29 t120 x17_2).f5) t125 _ ?side1 ?side2 ?side3 ?side4 A15.out).mono ?_);(case side1=>repeat (first|exact ((Kd.V_reads' (by (with_reducible repeat (first|apply Kd.V_alloc|apply Kd.V_drewN|apply Kd.V_drew));exact (Kd.V_mono (Kd.V_far (p:=⟨gb124,5,none⟩) (Kd.V_far (p:=⟨gb124,4,none⟩) (Kd.V_far (p:=⟨gb124,3,none⟩) (Kd.V_far (p:=⟨gb124,2,none⟩) (Kd.V_far (p:=⟨gb124,1,none⟩) (Kd.V_far (p:=⟨gb124,0,none⟩) (Kd.V_mono HL123_4.out (fun k_ hk=>(⟨hk,hk.2⟩ : _ ∧ k_ ≠ gb124))) (fun _ hk=>hk.2) (.int .i64 ((rd_T29 t120 x17_2).f0))) (fun _ hk=>hk.2) (.bool ((rd_T29 t120 x17_2).f1))) (fun _ hk=>hk.2) (.int .i64 ((rd_T29 t120 x17_2).f2))) (fun _ hk=>hk.2) (.string ((rd_T29 t120 x17_2).f3))) (fun _ hk=>hk.2) (.slice A123_4 ((rd_T29 t120 x17_2).f4).length c123_4)) (fun _ hk=>hk.2) (.slice A123_5 ((rd_T29 t120 x17_2).f5).length c123_5)) (fun _ h_=>h_.1)))).2.2)|(with_reducible refine Kd.C_alloc ?_ _)|(with_reducible refine Kd.C_drewN ?_ _)|(with_reducible refine Kd.C_drew ?_)));(case side2=>exact HC123_4.out);(case side3=>repeat (first|exact ((Kd.V_reads' (by (with_reducible repeat (first|apply Kd.V_alloc|apply Kd.V_drewN|apply Kd.V_drew));exact (Kd.V_mono (Kd.V_far (p:=⟨gb124,5,none⟩) (Kd.V_far (p:=⟨gb124,4,none⟩) (Kd.V_far (p:=⟨gb124,3,none⟩) (Kd.V_far (p:=⟨gb124,2,none⟩) (Kd.V_far (p:=⟨gb124,1,none⟩) (Kd.V_far (p:=⟨gb124,0,none⟩) (Kd.V_mono HL123_5.out (fun k_ hk=>(⟨hk,hk.2⟩ : _ ∧ k_ ≠ gb124))) (fun _ hk=>hk.2) (.int .i64 ((rd_T29 t120 x17_2).f0))) (fun _ hk=>hk.2) (.bool ((rd_T29 t120 x17_2).f1))) (fun _ hk=>hk.2) (.int .i64 ((rd_T29 t120 x17_2).f2))) (fun _ hk=>hk.2) (.string ((rd_T29 t120 x17_2).f3))) (fun _ hk=>hk.2) (.slice A123_4 ((rd_T29 t120 x17_2).f4).length c123_4)) (fun _ hk=>hk.2) (.slice A123_5 ((rd_T29 t120 x17_2).f5).length c123_5)) (fun _ h_=>h_.1)))).2.2)|(with_reducible refine Kd.C_alloc ?_ _)|(with_reducible refine Kd.C_drewN ?_ _)|(with_reducible refine Kd.C_drew ?_)));(case side4=>exact HC123_5.out);rintro e w20 ⟨rfl,hb⟩;refine ⟨_,rfl,?_⟩;have n0_:=Aside0.mk (Kd.V_below (by (with_reducible repeat (first|apply Kd.V_alloc|apply Kd.V_drewN|apply Kd.V_drew));exact (Kd.V_mono (Kd.V_far (p:=⟨gb124,5,none⟩) (Kd.V_far (p:=⟨gb124,4,none⟩) (Kd.V_far (p:=⟨gb124,3,none⟩) (Kd.V_far (p:=⟨gb124,2,none⟩) (Kd.V_far (p:=⟨gb124,1,none⟩) (Kd.V_far (p:=⟨gb124,0,none⟩) (Kd.V_mono HO_15.out (fun k_ hk=>(⟨hk,hk.2⟩ : _ ∧ k_ ≠ gb124))) (fun _ hk=>hk.2) (.int .i64 ((rd_T29 t120 x17_2).f0))) (fun _ hk=>hk.2) (.bool ((rd_T29 t120 x17_2).f1))) (fun _ hk=>hk.2) (.int .i64 ((rd_T29 t120 x17_2).f2))) (fun _ hk=>hk.2) (.string ((rd_T29 t120 x17_2).f3))) (fun _ hk=>hk.2) (.slice A123_4 ((rd_T29 t120 x17_2).f4).length c123_4)) (fun _ hk=>hk.2) (.slice A123_5 ((rd_T29 t120 x17_2).f5).length c123_5)) (fun _ h_=>h_.1))) hb);have n1_:=Aside0.mk (Kd.V_below (by (with_reducible repeat (first|apply Kd.V_alloc|apply Kd.V_drewN|apply Kd.V_drew));exact (Kd.V_mono (Kd.V_far (p:=⟨gb124,5,none⟩) (Kd.V_far (p:=⟨gb124,4,none⟩) (Kd.V_far (p:=⟨gb124,3,none⟩) (Kd.V_far (p:=⟨gb124,2,none⟩) (Kd.V_far (p:=⟨gb124,1,none⟩) (Kd.V_far (p:=⟨gb124,0,none⟩) (Kd.V_mono HL123_4.out (fun k_ hk=>(⟨hk,hk.2⟩ : _ ∧ k_ ≠ gb124))) (fun _ hk=>hk.2) (.int .i64 ((rd_T29 t120 x17_2).f0))) (fun _ hk=>hk.2) (.bool ((rd_T29 t120 x17_2).f1))) (fun _ hk=>hk.2) (.int .i64 ((rd_T29 t120 x17_2).f2))) (fun _ hk=>hk.2) (.string ((rd_T29 t120 x17_2).f3))) (fun _ hk=>hk.2) (.slice A123_4 ((rd_T29 t120 x17_2).f4).length c123_4)) (fun _ hk=>hk.2) (.slice A123_5 ((rd_T29 t120 x17_2).f5).length c123_5)) (fun _ h_=>h_.1))) hb);have n2_:=Aside0.mk (Kd.V_below (by (with_reducible repeat (first|apply Kd.V_alloc|apply Kd.V_drewN|apply Kd.V_drew));exact (Kd.V_mono (Kd.V_far (p:=⟨gb124,5,none⟩) (Kd.V_far (p:=⟨gb124,4,none⟩) (Kd.V_far (p:=⟨gb124,3,none⟩) (Kd.V_far (p:=⟨gb124,2,none⟩) (Kd.V_far (p:=⟨gb124,1,none⟩) (Kd.V_far (p:=⟨gb124,0,none⟩) (Kd.V_mono HL123_5.out (fun k_ hk=>(⟨hk,hk.2⟩ : _ ∧ k_ ≠ gb124))) (fun _ hk=>hk.2) (.int .i64 ((rd_T29 t120 x17_2).f0))) (fun _ hk=>hk.2) (.bool ((rd_T29 t120 x17_2).f1))) (fun _ hk=>hk.2) (.int .i64 ((rd_T29 t120 x17_2).f2))) (fun _ hk=>hk.2) (.string ((rd_T29 t120 x17_2).f3))) (fun _ hk=>hk.2) (.slice A123_4 ((rd_T29 t120 x17_2).f4).length c123_4)) (fun _ hk=>hk.2) (.slice A123_5 ((rd_T29 t120 x17_2).f5).length c123_5)) (fun _ h_=>h_.1))) hb);have n3_:=Aside0.mk (blk_below (g:=gb119) (o:=.cells #[.int .i64 a0_0,.bool a0_1,.int .i64 a0_2,.string a0_3,.slice A0_4 l0_4.length c0_4,.slice A0_5 l0_5.length c0_5] 29 (0,0)) (by (with_reducible repeat (first|apply blk_drewN|apply blk_drew|apply blk_alloc));refine blk_far ?_ NB119_124.out _;(with_reducible repeat (first|apply blk_drewN|apply blk_drew|apply blk_alloc));refine blk_far ?_ NB119_124.out _;(with_reducible repeat (first|apply blk_drewN|apply blk_drew|apply blk_alloc));refine blk_far ?_ NB119_124.out _;(with_reducible repeat (first|apply blk_drewN|apply blk_drew|apply blk_alloc));refine blk_far ?_ NB119_124.out _;(with_reducible repeat (first|apply blk_drewN|apply blk_drew|apply blk_alloc));refine blk_far ?_ NB119_124.out _;(with_reducible repeat (first|apply blk_drewN|apply blk_drew|apply blk_alloc));refine blk_far ?_ NB119_124.out _;(with_reducible repeat (first|apply blk_drewN|apply blk_drew|apply blk_alloc));exact BK119.out) hb);have n4_:=Aside0.mk (Kd.C_below ((Kd.V_reads' (by (with_reducible repeat (first|apply Kd.V_alloc|apply Kd.V_drewN|apply Kd.V_drew));exact (Kd.V_mono (Kd.V_far (p:=⟨gb124,5,none⟩) (Kd.V_far (p:=⟨gb124,4,none⟩) (Kd.V_far (p:=⟨gb124,3,none⟩) (Kd.V_far (p:=⟨gb124,2,none⟩) (Kd.V_far (p:=⟨gb124,1,none⟩) (Kd.V_far (p:=⟨gb124,0,none⟩) (Kd.V_mono HL123_4.out (fun k_ hk=>(⟨hk,hk.2⟩ : _ ∧ k_ ≠ gb124))) (fun _ hk=>hk.2) (.int .i64 ((rd_T29 t120 x17_2).f0))) (fun _ hk=>hk.2) (.bool ((rd_T29 t120 x17_2).f1))) (fun _ hk=>hk.2) (.int .i64 ((rd_T29 t120 x17_2).f2))) (fun _ hk=>hk.2) (.string ((rd_T29 t120 x17_2).f3))) (fun _ hk=>hk.2) (.slice A123_4 ((rd_T29 t120 x17_2).f4).length c123_4)) (fun _ hk=>hk.2) (.slice A123_5 ((rd_T29 t120 x17_2).f5).length c123_5)) (fun _ h_=>h_.1)))).2.2) hb);have n5_:=Aside0.mk (Kd.C_below ((Kd.V_reads' (by (with_reducible repeat (first|apply Kd.V_alloc|apply Kd.V_drewN|apply Kd.V_drew));exact (Kd.V_mono (Kd.V_far (p:=⟨gb124,5,none⟩) (Kd.V_far (p:=⟨gb124,4,none⟩) (Kd.V_far (p:=⟨gb124,3,none⟩) (Kd.V_far (p:=⟨gb124,2,none⟩) (Kd.V_far (p:=⟨gb124,1,none⟩) (Kd.V_far (p:=⟨gb124,0,none⟩) (Kd.V_mono HL123_5.out (fun k_ hk=>(⟨hk,hk.2⟩ : _ ∧ k_ ≠ gb124))) (fun _ hk=>hk.2) (.int .i64 ((rd_T29 t120 x17_2).f0))) (fun _ hk=>hk.2) (.bool ((rd_T29 t120 x17_2).f1))) (fun _ hk=>hk.2) (.int .i64 ((rd_T29 t120 x17_2).f2))) (fun _ hk=>hk.2) (.string ((rd_T29 t120 x17_2).f3))) (fun _ hk=>hk.2) (.slice A123_4 ((rd_T29 t120 x17_2).f4).length c123_4)) (fun _ hk=>hk.2) (.slice A123_5 ((rd_T29 t120 x17_2).f5).length c123_5)) (fun _ h_=>h_.1)))).2.2) hb);have n6_:=Aside0.mk (blk_below (g:=gb124) (o:=.cells #[.int .i64 ((rd_T29 t120 x17_2).f0),.bool ((rd_T29 t120 x17_2).f1),.int .i64 ((rd_T29 t120 x17_2).f2),.string ((rd_T29 t120 x17_2).f3),.slice A123_4 ((rd_T29 t120 x17_2).f4).length c123_4,.slice A123_5 ((rd_T29 t120 x17_2).f5).length c123_5] 29 (0,0)) (by (with_reducible repeat (first|apply blk_drewN|apply blk_drew|apply blk_alloc));refine blk_put (cs:=#[.int .i64 ((rd_T29 t120 x17_2).f0),.bool ((rd_T29 t120 x17_2).f1),.int .i64 ((rd_T29 t120 x17_2).f2),.string ((rd_T29 t120 x17_2).f3),.slice A123_4 ((rd_T29 t120 x17_2).f4).length c123_4,.slice none 0 0]) ?_ 5 _ rfl;(with_reducible repeat (first|apply blk_drewN|apply blk_drew|apply blk_alloc));refine blk_put (cs:=#[.int .i64 ((rd_T29 t120 x17_2).f0),.bool ((rd_T29 t120 x17_2).f1),.int .i64 ((rd_T29 t120 x17_2).f2),.string ((rd_T29 t120 x17_2).f3),.slice none 0 0,.slice none 0 0]) ?_ 4 _ rfl;(with_reducible repeat (first|apply blk_drewN|apply blk_drew|apply blk_alloc));refine blk_put (cs:=#[.int .i64 ((rd_T29 t120 x17_2).f0),.bool ((rd_T29 t120 x17_2).f1),.int .i64 ((rd_T29 t120 x17_2).f2),.string (⟨#[]⟩ : ByteArray),.slice none 0 0,.slice none 0 0]) ?_ 3 _ rfl;(with_reducible repeat (first|apply blk_drewN|apply blk_drew|apply blk_alloc));refine blk_put (cs:=#[.int .i64 ((rd_T29 t120 x17_2).f0),.bool ((rd_T29 t120 x17_2).f1),.int .i64 0,.string (⟨#[]⟩ : ByteArray),.slice none 0 0,.slice none 0 0]) ?_ 2 _ rfl;(with_reducible repeat (first|apply blk_drewN|apply blk_drew|apply blk_alloc));refine blk_put (cs:=#[.int .i64 ((rd_T29 t120 x17_2).f0),.bool false,.int .i64 0,.string (⟨#[]⟩ : ByteArray),.slice none 0 0,.slice none 0 0]) ?_ 1 _ rfl;(with_reducible repeat (first|apply blk_drewN|apply blk_drew|apply blk_alloc));refine blk_put (cs:=#[.int .i64 0,.bool false,.int .i64 0,.string (⟨#[]⟩ : ByteArray),.slice none 0 0,.slice none 0 0]) ?_ 0 _ rfl;(with_reducible repeat (first|apply blk_drewN|apply blk_drew|apply blk_alloc));exact BK124.out) hb);have n7_:=Aside0.mk (below_step (by repeat (first|(with_reducible first|exact HB.out|apply below_alloc|apply pw_below_drewN|apply below_drew1|refine below_set ?_ GE119.out|refine below_set ?_ GE124.out)|exact HB.out)) hb);clear HO_15;clear HL123_4;clear HL123_5;clear BK119;clear HR123_4;clear HR123_5;clear BK124;clear HB;have HO_15:=n0_;have HL123_4:=n1_;have HL123_5:=n2_;have BK119:=n3_;have HR123_4:=n4_;have HR123_5:=n5_;have BK124:=n6_;have HB:=n7_;clear n0_ n1_ n2_ n3_ n4_ n5_ n6_ n7_;(try clear hb);(try clear hb2);(try clear hk);(try clear hi)))
         go_roundg k2
         case measure=>have:=HJ1.out;have:=HK2.out;omega
         case rel=>exact ⟨(ji16),(wrap64 (x17_2 + 1)),(by first|rfl|(simp;done)|(simp only [← hji16] <;> (first|rfl|simp))|(simp [*];done)),(by first|rfl|(simp;done)|(simp [*];done)),H',⟨by have:=HJ1.out;have:=HK2.out;omega⟩,⟨by (with_reducible repeat (first|apply Kd.V_alloc|apply Kd.V_drewN|apply Kd.V_drew));exact Kd.V_mono HO_15.out (fun _ hk=>hk.1)⟩,⟨by (with_reducible repeat (first|apply blk_drewN|apply blk_drew|apply blk_alloc));exact BK119.out⟩,⟨by repeat (first|(with_reducible first|exact HB.out|apply below_alloc|apply pw_below_drewN|apply below_drew1|refine below_set ?_ GE119.out|refine below_set ?_ GE124.out)|exact HB.out)⟩⟩
        ·rw [if_neg c14] at H
         exact absurd H (by simp)
       ·rw [if_neg c13] at H
        exact absurd H (by simp)
      ·rw [if_neg c12] at H
       have c12b0 : decide (x17_2 < (t120.length : Int)) = false:=decide_eq_false c12
       clear c12
       obtain rfl:=Option.some.inj H
       go_wp2
       go_ret
       exact ⟨by first|rfl|(simp [errW_none,errW_some] <;> rfl)|(simp [*,errW_none,errW_some] <;> rfl),by repeat (first|(with_reducible first|exact HB.out|apply below_alloc|apply pw_below_drewN|apply below_drew1|refine below_set ?_ GE119.out)|exact HB.out)⟩

end Go.Proofs.YtnkkbiabloodaaaDoor.GVa
