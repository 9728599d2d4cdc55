/- Written by this session's own program (wip/gen.py) out of the translation: plain Lean functions of the Go functions, and proofs that the calls come to their answers. No conditions beside those in the statements. -/
import Derived.Test.YtnkkbiabloodaaaDoorGVax0
namespace Go.Proofs.YtnkkbiabloodaaaDoor.GVa
open Go.RowKit Go.Proofs.YtnkkbiabloodaaaDoorW.PrintWords Go.Proofs.YtnkkbiabloodaaaDoorW.PrintLast Go.Proofs.YtnkkbiabloodaaaDoorW.PrintMore
attribute [local go_sem] max2_int min2_int max_two min_two max_three min_three max_four min_four   -- for this text's walks alone
set_option linter.unusedVariables false
set_option linter.unusedSimpArgs false

/-! ### bosunlaw05_key: function 31 -/
def bosunlaw05_key.f (a0_0 : Int) (a0_1 : Int) (a0_2 : Bool) (a0_3 : Int) (a0_4 : ByteArray) (a1 : Int) : Option (ByteArray):=if a0_3 = 4 then ((some (([97 + ((0 : Int) % 26)] : List Int) : List Int)).bind fun y185=>(if a0_4.size + (strOfNums y185).size ≤ 9223372036854775807 then (some (a0_4 ++ (strOfNums y185))) else (none))) else ((some (([(wrap64 (97 + (Int.tmod a1 26))) % 256] : List Int) : List Int)).bind fun y188=>(if a0_4.size + (strOfNums y188).size ≤ 9223372036854775807 then (some (a0_4 ++ (strOfNums y188))) else (none)))
set_option maxHeartbeats 8000000 in
set_option maxRecDepth 100000 in
theorem bosunlaw05_key.calls (a0_0 : Int) (a0_1 : Int) (a0_2 : Bool) (a0_3 : Int) (a0_4 : ByteArray) (a1 : Int) (r : ByteArray) (w : World) (h : bosunlaw05_key.f a0_0 a0_1 a0_2 a0_3 a0_4 a1 = some r) :
  Calls Tryd.prog 31 #[.agg #[.int .i64 a0_0,.int .i64 a0_1,.bool a0_2,.int .i64 a0_3,.string a0_4],.int .i64 a1] w fun e w'=>e = .returned (.string r) ∧ Below w.heap.size w w':=by
 have hu75:=Tryd.underlying75
 have HB:=Aside0.mk (Below.refl w.heap.size w)
 have H : (if a0_3 = 4 then ((some (([97 + ((0 : Int) % 26)] : List Int) : List Int)).bind fun y185=>(if a0_4.size + (strOfNums y185).size ≤ 9223372036854775807 then (some (a0_4 ++ (strOfNums y185))) else (none))) else ((some (([(wrap64 (97 + (Int.tmod a1 26))) % 256] : List Int) : List Int)).bind fun y188=>(if a0_4.size + (strOfNums y188).size ≤ 9223372036854775807 then (some (a0_4 ++ (strOfNums y188))) else (none)))) = some r:=h
 clear h
 by_cases c3 : a0_3 = 4
 ·rw [if_pos c3] at H
  have c3b0 : (a0_3 == 4) = true:=beq_iff_eq.mpr c3
  have c3b1 : (a0_3 != 4) = false:=bne_eq_false_iff_eq.mpr c3
  clear c3
  obtain ⟨y185,hy185⟩ : ∃ y_ : List Int,y_ = (([97 + ((0 : Int) % 26)] : List Int)):=⟨_,rfl⟩
  replace H : (if a0_4.size + (strOfNums y185).size ≤ 9223372036854775807 then (some (a0_4 ++ (strOfNums y185))) else (none)) = some r:=by first|(rw [hy185];with_reducible exact H)|(have H2_:=(Option.bind_some _ _).symm.trans H;rw [hy185];with_reducible exact H2_)|(have H2_:=(Option.bind_some _ _).symm.trans H;with_reducible exact H2_)|with_reducible exact H|(rw [hy185];exact H)|exact H
  have Ny185:=Aside0.mk hy185
  clear hy185
  by_cases c4 : a0_4.size + (strOfNums y185).size ≤ 9223372036854775807
  ·rw [if_pos c4] at H
   have c4b0:=eq_true c4
   have c4b1 : decide (a0_4.size + (strOfNums y185).size ≤ 9223372036854775807) = true:=decide_eq_true c4
   try have c4b2 : (9223372036854775807 < a0_4.size + (strOfNums y185).size) = False:=eq_false (Nat.not_lt.2 c4)
   obtain rfl:=Option.some.inj H
   go_enter Tryd.func31,Tryd.ntmps31
   go_wp2_with (first|((with_reducible refine gate_dst (N:=2) rfl ?_);refine box_event ?hg (N:=2) ?hd (cs:=#[.int .i64 a0_0,.int .i64 a0_1,.bool a0_2,.int .i64 a0_3,.string a0_4]) (t:=75) ?hr ?_;(case hd=>rfl);(case hg=>rfl);(case hr=>first|(go_simp;done)|(go_simp;rfl));intro gb184 hg w5 hbox hb;have n0_:=Aside0.mk (below_step (by repeat (first|(with_reducible first|exact HB.out|apply below_alloc|apply pw_below_drewN|apply below_drew1)|exact HB.out)) hb);have n1_:=Aside0.mk (hbox);have n2_:=Aside0.mk ((by rw [hg];exact (below_size (by repeat (first|(with_reducible first|exact HB.out|apply below_alloc|apply pw_below_drewN|apply below_drew1)|exact HB.out))) : w.heap.size ≤ gb184));have n3_:=Aside0.mk ((by rw [hg];exact (below_size (by repeat (first|(with_reducible first|exact HB.out|apply below_alloc|apply pw_below_drewN|apply below_drew1)|exact HB.out))) : w.heap.size ≤ gb184));clear HB;have HB:=n0_;have BK184:=n1_;have GW184:=n2_;have GE184:=n3_;clear n0_ n1_ n2_ n3_;clear hb hbox hg;have hcz6_0 : w5.cell? ⟨gb184,0,none⟩ = some (.int .i64 a0_0):=(blk_cell BK184.out 0).trans rfl;have hcz6_1 : w5.cell? ⟨gb184,1,none⟩ = some (.int .i64 a0_1):=(blk_cell BK184.out 1).trans rfl;have hcz6_2 : w5.cell? ⟨gb184,2,none⟩ = some (.bool a0_2):=(blk_cell BK184.out 2).trans rfl;have hcz6_3 : w5.cell? ⟨gb184,3,none⟩ = some (.int .i64 a0_3):=(blk_cell BK184.out 3).trans rfl;have hcz6_4 : w5.cell? ⟨gb184,4,none⟩ = some (.string a0_4):=(blk_cell BK184.out 4).trans rfl;have hfz6_0:=blk_frozen BK184.out 0;have hfz6_1:=blk_frozen BK184.out 1;have hfz6_2:=blk_frozen BK184.out 2;have hfz6_3:=blk_frozen BK184.out 3;have hfz6_4:=blk_frozen BK184.out 4)|((with_reducible refine gate_dst (N:=14) rfl ?_);refine Kd.R_lit (Kd.int .u8) _ 5 ?hg (N:=14) ?hd (xs:=([97 + ((0 : Int) % 26)] : List Int)) (inner:=[.int .u8 (97 + ((0 : Int) % 26))]) (ok:=fun _=>True) (okp:=fun _=>True) ?hr ?hp (fun _ hk=>hk) trivial (Below.refl _ _) (Nat.le_refl _) (by simp) ?_;(case hd=>rfl);(case hg=>rfl);(case hr=>first|(go_simp;done)|(go_simp;rfl));(case hp=>exact (Reps.one (show Kd.M (Kd.int .u8) _ _ _ (97 + ((0 : Int) % 26)) [.int .u8 (97 + ((0 : Int) % 26))] from rfl) (Reps.none _ _)));intro v186 w7 ho8 hb hg_ hnew_;clear hg_ hnew_;(first|rw [← Ny185.out] at ho8|(simp only [Int.reduceToNat] at ho8;rw [← Ny185.out] at ho8));have n0_:=Aside0.mk (Kd.R_lower ho8 (below_size (by repeat (first|(with_reducible first|exact HB.out|apply below_alloc|apply pw_below_drewN|apply below_drew1|refine below_set ?_ GE184.out)|exact HB.out))));have n1_:=Aside0.mk (blk_below (g:=gb184) (o:=.cells #[.int .i64 a0_0,.int .i64 a0_1,.bool a0_2,.int .i64 a0_3,.string a0_4] 75 (0,0)) (by (with_reducible repeat (first|apply blk_drewN|apply blk_drew|apply blk_alloc));exact BK184.out) hb);have n2_:=Aside0.mk (below_step (by repeat (first|(with_reducible first|exact HB.out|apply below_alloc|apply pw_below_drewN|apply below_drew1|refine below_set ?_ GE184.out)|exact HB.out)) hb);clear BK184;clear HB;have HO187:=n0_;have BK184:=n1_;have HB:=n2_;clear n0_ n1_ n2_;clear hb ho8;have hcv9:=own_string (P:=Tryd.prog) Tryd.underlying92 Tryd.underlying5 Tryd.underlying9 (Kd.own_of_R HO187.out)))
   go_ret
   exact ⟨by first|rfl|(simp [errW_none,errW_some] <;> rfl)|(simp [*,errW_none,errW_some] <;> rfl),by repeat (first|(with_reducible first|exact HB.out|apply below_alloc|apply pw_below_drewN|apply below_drew1|refine below_set ?_ GE184.out)|exact HB.out)⟩
  ·rw [if_neg c4] at H
   exact absurd H (by simp)
 ·rw [if_neg c3] at H
  have c3b0 : (a0_3 == 4) = false:=beq_eq_false_iff_ne.mpr c3
  have c3b1 : (a0_3 != 4) = true:=bne_iff_ne.mpr c3
  obtain ⟨y188,hy188⟩ : ∃ y_ : List Int,y_ = (([(wrap64 (97 + (Int.tmod a1 26))) % 256] : List Int)):=⟨_,rfl⟩
  replace H : (if a0_4.size + (strOfNums y188).size ≤ 9223372036854775807 then (some (a0_4 ++ (strOfNums y188))) else (none)) = some r:=by first|(rw [hy188];with_reducible exact H)|(have H2_:=(Option.bind_some _ _).symm.trans H;rw [hy188];with_reducible exact H2_)|(have H2_:=(Option.bind_some _ _).symm.trans H;with_reducible exact H2_)|with_reducible exact H|(rw [hy188];exact H)|exact H
  have Ny188:=Aside0.mk hy188
  clear hy188
  by_cases c10 : a0_4.size + (strOfNums y188).size ≤ 9223372036854775807
  ·rw [if_pos c10] at H
   have c10b0:=eq_true c10
   have c10b1 : decide (a0_4.size + (strOfNums y188).size ≤ 9223372036854775807) = true:=decide_eq_true c10
   try have c10b2 : (9223372036854775807 < a0_4.size + (strOfNums y188).size) = False:=eq_false (Nat.not_lt.2 c10)
   obtain rfl:=Option.some.inj H
   go_enter Tryd.func31,Tryd.ntmps31
   go_wp2_with (first|((with_reducible refine gate_dst (N:=2) rfl ?_);refine box_event ?hg (N:=2) ?hd (cs:=#[.int .i64 a0_0,.int .i64 a0_1,.bool a0_2,.int .i64 a0_3,.string a0_4]) (t:=75) ?hr ?_;(case hd=>rfl);(case hg=>rfl);(case hr=>first|(go_simp;done)|(go_simp;rfl));intro gb184 hg w11 hbox hb;have n0_:=Aside0.mk (below_step (by repeat (first|(with_reducible first|exact HB.out|apply below_alloc|apply pw_below_drewN|apply below_drew1)|exact HB.out)) hb);have n1_:=Aside0.mk (hbox);have n2_:=Aside0.mk ((by rw [hg];exact (below_size (by repeat (first|(with_reducible first|exact HB.out|apply below_alloc|apply pw_below_drewN|apply below_drew1)|exact HB.out))) : w.heap.size ≤ gb184));have n3_:=Aside0.mk ((by rw [hg];exact (below_size (by repeat (first|(with_reducible first|exact HB.out|apply below_alloc|apply pw_below_drewN|apply below_drew1)|exact HB.out))) : w.heap.size ≤ gb184));clear HB;have HB:=n0_;have BK184:=n1_;have GW184:=n2_;have GE184:=n3_;clear n0_ n1_ n2_ n3_;clear hb hbox hg;have hcz12_0 : w11.cell? ⟨gb184,0,none⟩ = some (.int .i64 a0_0):=(blk_cell BK184.out 0).trans rfl;have hcz12_1 : w11.cell? ⟨gb184,1,none⟩ = some (.int .i64 a0_1):=(blk_cell BK184.out 1).trans rfl;have hcz12_2 : w11.cell? ⟨gb184,2,none⟩ = some (.bool a0_2):=(blk_cell BK184.out 2).trans rfl;have hcz12_3 : w11.cell? ⟨gb184,3,none⟩ = some (.int .i64 a0_3):=(blk_cell BK184.out 3).trans rfl;have hcz12_4 : w11.cell? ⟨gb184,4,none⟩ = some (.string a0_4):=(blk_cell BK184.out 4).trans rfl;have hfz12_0:=blk_frozen BK184.out 0;have hfz12_1:=blk_frozen BK184.out 1;have hfz12_2:=blk_frozen BK184.out 2;have hfz12_3:=blk_frozen BK184.out 3;have hfz12_4:=blk_frozen BK184.out 4)|((with_reducible refine gate_dst (N:=14) rfl ?_);refine Kd.R_lit (Kd.int .u8) _ 5 ?hg (N:=14) ?hd (xs:=([(wrap64 (97 + (Int.tmod a1 26))) % 256] : List Int)) (inner:=[.int .u8 ((wrap64 (97 + (Int.tmod a1 26))) % 256)]) (ok:=fun _=>True) (okp:=fun _=>True) ?hr ?hp (fun _ hk=>hk) trivial (Below.refl _ _) (Nat.le_refl _) (by simp) ?_;(case hd=>rfl);(case hg=>rfl);(case hr=>first|(go_simp;done)|(go_simp;rfl));(case hp=>exact (Reps.one (show Kd.M (Kd.int .u8) _ _ _ ((wrap64 (97 + (Int.tmod a1 26))) % 256) [.int .u8 ((wrap64 (97 + (Int.tmod a1 26))) % 256)] from rfl) (Reps.none _ _)));intro v189 w13 ho14 hb hg_ hnew_;clear hg_ hnew_;(first|rw [← Ny188.out] at ho14|(simp only [Int.reduceToNat] at ho14;rw [← Ny188.out] at ho14));have n0_:=Aside0.mk (Kd.R_lower ho14 (below_size (by repeat (first|(with_reducible first|exact HB.out|apply below_alloc|apply pw_below_drewN|apply below_drew1|refine below_set ?_ GE184.out)|exact HB.out))));have n1_:=Aside0.mk (blk_below (g:=gb184) (o:=.cells #[.int .i64 a0_0,.int .i64 a0_1,.bool a0_2,.int .i64 a0_3,.string a0_4] 75 (0,0)) (by (with_reducible repeat (first|apply blk_drewN|apply blk_drew|apply blk_alloc));exact BK184.out) hb);have n2_:=Aside0.mk (below_step (by repeat (first|(with_reducible first|exact HB.out|apply below_alloc|apply pw_below_drewN|apply below_drew1|refine below_set ?_ GE184.out)|exact HB.out)) hb);clear BK184;clear HB;have HO190:=n0_;have BK184:=n1_;have HB:=n2_;clear n0_ n1_ n2_;clear hb ho14;have hcv15:=own_string (P:=Tryd.prog) Tryd.underlying92 Tryd.underlying5 Tryd.underlying9 (Kd.own_of_R HO190.out)))
   go_ret
   exact ⟨by first|rfl|(simp [errW_none,errW_some] <;> rfl)|(simp [*,errW_none,errW_some] <;> rfl),by repeat (first|(with_reducible first|exact HB.out|apply below_alloc|apply pw_below_drewN|apply below_drew1|refine below_set ?_ GE184.out)|exact HB.out)⟩
  ·rw [if_neg c10] at H
   exact absurd H (by simp)

-- NOT PRINTED: function 10 (bosunlaw05_Build)

end Go.Proofs.YtnkkbiabloodaaaDoor.GVa
