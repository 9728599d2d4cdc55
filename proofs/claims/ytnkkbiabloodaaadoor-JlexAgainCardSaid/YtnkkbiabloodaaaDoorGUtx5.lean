/- Written by this session's own program (wip/gen.py) out of the translation: plain Lean functions of the Go functions, and proofs that the calls come to their answers. No conditions beside those in the statements. -/
import Derived.Test.YtnkkbiabloodaaaDoorGUtx0
import Derived.Test.YtnkkbiabloodaaaDoorGUtx2
import Derived.Test.YtnkkbiabloodaaaDoorGUtWord
import Derived.Test.YtnkkbiabloodaaaDoorGW
namespace Go.Proofs.YtnkkbiabloodaaaDoor.GUt
open Go.RowKit Go.Proofs.YtnkkbiabloodaaaDoorW.PrintWords Go.Proofs.YtnkkbiabloodaaaDoorW.PrintLast Go.Proofs.YtnkkbiabloodaaaDoorW.PrintMore
attribute [local go_sem] max2_int min2_int max_two min_two max_three min_three max_four min_four   -- for this text's walks alone
set_option linter.unusedVariables false
set_option linter.unusedSimpArgs false

/-! ### jlex_Lex: function 28 -/
def jlex_Lex.l0 : Nat → ByteArray → List (S69) → Int → Option ((List (S69)) × Int × Int)
 | 0,_,_,_=>none
 | k + 1,x0,x5,x6=>if x6 < (x0.size : Int) then (if 0 ≤ x6 then (if x6 ≤ (x0.size : Int) then ((jlex_word.f k (x0.extract (x6 : Int).toNat x0.size)).bind fun bt108=>(if bt108.2.2.2.2.2 = 0 then (if x5.length < 3518437208883 then ((jlex_skip.f k x0 (wrap64 (x6 + bt108.2.2.2.2.1))).bind fun t118=>(jlex_Lex.l0 k x0 (x5 ++ [(⟨bt108.1,bt108.2.1,bt108.2.2.1,x6⟩ : S69)]) t118)) else (none)) else (some (([] : List (S69)),x6,bt108.2.2.2.2.2)))) else (none)) else (none)) else (if x5.length < 3518437208883 then (some ((x5 ++ [(⟨11,(⟨#[]⟩ : ByteArray),0,(x0.size : Int)⟩ : S69)]),0,0)) else (none))
def jlex_Lex.f (k : Nat) (a0 : ByteArray) : Option ((List (S69)) × Int × Int):=if (a0.size : Int) > 1048576 then (some (([] : List (S69)),0,2)) else ((jlex_skip.f k a0 0).bind fun t104=>(jlex_Lex.l0 k a0 ([] : List (S69)) t104))
theorem jlex_Lex.mono_l : ∀ k,(∀ y0 y1 y2,LeO (jlex_Lex.l0 k y0 y1 y2) (jlex_Lex.l0 (k + 1) y0 y1 y2))
 | 0=>fun _ _ _ r h=>by simp [jlex_Lex.l0] at h
 | k + 1=>by
  have ih0:=jlex_Lex.mono_l k
  ·intro y0 y1 y2
   unfold jlex_Lex.l0
   repeat' first
   | (with_reducible exact ih0 _ _ _)
   | (with_reducible exact jlex_skip.mono _ _ _)
   | (with_reducible exact jlex_word.mono _ _)
   | (with_reducible exact LeO.refl _)
   | (with_reducible exact LeO.none _)
   | (with_reducible refine LeO.ite ?_ ?_)
   | (with_reducible refine LeO.bind ?_ (fun _=>?_))
   | exact ih0 _ _ _
   | exact jlex_skip.mono _ _ _
   | exact jlex_word.mono _ _
   | exact LeO.none _
   | refine LeO.ite ?_ ?_
   | refine LeO.bind ?_ (fun _=>?_)
theorem jlex_Lex.mono : ∀ a0 k,LeO (jlex_Lex.f k a0) (jlex_Lex.f (k + 1) a0):=by
 intro a0 k
 have ih0:=jlex_Lex.mono_l k
 unfold jlex_Lex.f
 repeat' first
   | (with_reducible exact ih0 _ _ _)
   | (with_reducible exact jlex_skip.mono _ _ _)
   | (with_reducible exact jlex_word.mono _ _)
   | (with_reducible exact LeO.refl _)
   | (with_reducible exact LeO.none _)
   | (with_reducible refine LeO.ite ?_ ?_)
   | (with_reducible refine LeO.bind ?_ (fun _=>?_))
   | exact ih0 _ _ _
   | exact jlex_skip.mono _ _ _
   | exact jlex_word.mono _ _
   | exact LeO.none _
   | refine LeO.ite ?_ ?_
   | refine LeO.bind ?_ (fun _=>?_)
theorem load_event {P : Program} {ops : Array Oper} {rest : List Oper} {o : Oper} {a : Act} {Q : Exit → Act → World → Prop} {W : World} {p : Tmp} {g : Nat} {t ty : TypeId} {cs : Array Value} {d : TypeDesc} (hgd : o.guard = none) (ho : o.op = .load ty (.tmp p)) (hp : a.eval (.tmp p) = .pointer (some ⟨g,0,none⟩)) (hg : W.heap[g]? = some (.cells cs t (0,0)))
  (hu : P.underlying ty = some d) (hd : (match d with | .struct _ | .array _ _ => true | _ => false) = true) (hi : (P.info? ty).map (·.size) = some cs.size) (h : wpList P ops Q rest (a.put o.dst (.agg cs)) W) : wpList P ops Q (o :: rest) a W:=by
 have e:=run_loadVar_row W g t ty cs (0,0) d hg hu hd hi
 refine Kd.event_run hgd ?_ h
 simp [execOp,ho,hp,asAddr,e,Instr.loadAt,Instr.sureAddr,Result.andThen]
set_option maxHeartbeats 8000000 in
set_option maxRecDepth 100000 in
theorem jlex_Lex.calls (k : Nat) (a0 : ByteArray) (r1 : List (S69)) (r2 : Int) (r3 : Int) (w : World) (h : jlex_Lex.f k a0 = some (r1,r2,r3)) (hG : GW.GW w) :
  Calls Tryd.prog 28 #[.string a0] w fun e w'=>∃ v0_ : Value,e = .returned (.tuple #[v0_,.int .i64 r2,.int .i64 r3]) ∧ Kd.R k69 69 w' w.heap.size (fun _=>True) v0_ r1 ∧ Below w.heap.size w w':=by
 have hu69:=Tryd.underlying69
 have HB:=Aside0.mk (Below.refl w.heap.size w)
 have H : (if (a0.size : Int) > 1048576 then (some (([] : List (S69)),0,2)) else ((jlex_skip.f k a0 0).bind fun t104=>(jlex_Lex.l0 k a0 ([] : List (S69)) t104))) = some (r1,r2,r3):=h
 clear h
 by_cases c2 : (a0.size : Int) > 1048576
 ·rw [if_pos c2] at H
  have c2b0 : decide (1048576 < (a0.size : Int)) = true:=decide_eq_true c2
  have c2b1 : decide (1048576 < a0.size) = true:=decide_eq_true (by omega)
  clear c2
  simp only [Option.some.injEq,Prod.mk.injEq] at H
  obtain ⟨rfl,rfl,rfl⟩:=H
  go_enter Tryd.func28,Tryd.ntmps28
  go_wp2
  go_ret3
  exact ⟨_,by first|rfl|(simp [errW_none,errW_some] <;> rfl)|(simp [*,errW_none,errW_some] <;> rfl),by first|exact Kd.R_nil _ _ _ _ _|exact Kd.N_nil _ _ _ _ _|exact Kd.V_nil _ _ _ _ _|exact Kd.Q_nil _ _ _ _ _|exact Kd.S_nil _ _ _ _ _,by repeat (first|(with_reducible first|exact HB.out|apply below_alloc|apply pw_below_drewN|apply below_drew1)|exact HB.out)⟩
 ·rw [if_neg c2] at H
  have c2b0 : decide (1048576 < (a0.size : Int)) = false:=decide_eq_false c2
  have c2b1 : decide (1048576 < a0.size) = false:=decide_eq_false (by omega)
  clear c2
  replace H:=Option.bind_eq_some_iff.mp H
  obtain ⟨t104,A30,H⟩:=H
  replace H : (jlex_Lex.l0 k a0 ([] : List (S69)) t104) = some (r1,r2,r3):=H
  have A3:=Aside0.mk A30
  clear A30
  have H':=Aside0.mk H
  clear H
  go_enter Tryd.func28,Tryd.ntmps28
  go_wp2_with (first|((with_reducible refine gate_callee (f:=43) rfl ?_);refine goesL_ (some 14) rfl rfl Tryd.func43 (by kernel_rfl) rfl #[.string a0,.int .i64 0] rfl (by (try simp only [List.map_toArray,List.map_cons,List.map_nil]);first|done|rfl|(simp only [List.length_drop,List.length_take];rfl)|(simp (disch:=first|omega|(simp at *;omega)) only [u64_id,i64_id,u8_id];rfl)) ?_;(with_reducible refine (jlex_skip.calls k a0 0 t104 _ A3.out).mono ?_);rintro e w' ⟨rfl,⟨nd,rfl⟩⟩;refine ⟨_,rfl,?_⟩))
  go_loopg [5,6] k (fun kq v5 v6 w'=>∃ (x5_1 : List (S69)) (x6_1 : Int),v6 = .int .i64 x6_1 ∧ Aside0 (jlex_Lex.l0 kq a0 x5_1 x6_1 = some (r1,r2,r3)) ∧ Aside0 (kq ≤ k) ∧ Aside0 (Kd.R k69 69 w' w.heap.size (fun _=>True) v5 x5_1) ∧ Aside0 (Below w.heap.size w w'))
  case atStart=>exact ⟨(([] : List (S69))),(t104),(by first|rfl|(simp;done)|(simp [*];done)),H',⟨Nat.le_refl _⟩,⟨by first|exact Kd.R_nil _ _ _ _ _|exact Kd.N_nil _ _ _ _ _|exact Kd.V_nil _ _ _ _ _|exact Kd.Q_nil _ _ _ _ _|exact Kd.S_nil _ _ _ _ _⟩,⟨by repeat (first|(with_reducible first|exact HB.out|apply below_alloc|apply pw_below_drewN|apply below_drew1)|exact HB.out)⟩⟩
  case round =>
   clear H'
   try clear c2
   try clear c2b0
   try clear c2b1
   try clear p2
   obtain ⟨x5_1,x6_1,rfl,HA,HK1,HO_5,HB⟩:=hrel
   cases gk with
   | zero=>exact absurd HA.out (by simp [jlex_Lex.l0])
   | succ k1 =>
    have H:=HA.out
    clear HA
    simp only [jlex_Lex.l0] at H
    by_cases c4 : x6_1 < (a0.size : Int)
    ·rw [if_pos c4] at H
     have c4b0 : decide (x6_1 < (a0.size : Int)) = true:=decide_eq_true c4
     clear c4
     by_cases c5 : 0 ≤ x6_1
     ·rw [if_pos c5] at H
      have c5b0:=eq_true c5
      have c5b1 : decide (0 ≤ x6_1) = true:=decide_eq_true c5
      clear c5
      by_cases c6 : x6_1 ≤ (a0.size : Int)
      ·rw [if_pos c6] at H
       have c6b0:=eq_true c6
       have c6b1 : decide (x6_1 ≤ (a0.size : Int)) = true:=decide_eq_true c6
       clear c6
       replace H:=Option.bind_eq_some_iff.mp H
       obtain ⟨⟨t108,t109,t110,t111,t112,t113⟩,A70,H⟩:=H
       replace H : (if t113 = 0 then (if x5_1.length < 3518437208883 then ((jlex_skip.f k1 a0 (wrap64 (x6_1 + t112))).bind fun t118=>(jlex_Lex.l0 k1 a0 (x5_1 ++ [(⟨t108,t109,t110,x6_1⟩ : S69)]) t118)) else (none)) else (some (([] : List (S69)),x6_1,t113))) = some (r1,r2,r3):=H
       have A7:=Aside0.mk A70
       clear A70
       by_cases c8 : t113 = 0
       ·rw [if_pos c8] at H
        have c8b0 : (t113 == 0) = true:=beq_iff_eq.mpr c8
        have c8b1 : (t113 != 0) = false:=bne_eq_false_iff_eq.mpr c8
        clear c8
        by_cases c9 : x5_1.length < 3518437208883
        ·rw [if_pos c9] at H
         have LMc9:=Aside0.mk c9
         clear c9
         obtain ⟨y115,hy115⟩ : ∃ y_ : List (S69),y_ = (x5_1 ++ [(⟨t108,t109,t110,x6_1⟩ : S69)]):=⟨_,rfl⟩
         replace H : ((jlex_skip.f k1 a0 (wrap64 (x6_1 + t112))).bind fun t118=>(jlex_Lex.l0 k1 a0 y115 t118)) = some (r1,r2,r3):=by first|(rw [hy115];with_reducible exact H)|(have H2_:=(Option.bind_some _ _).symm.trans H;rw [hy115];with_reducible exact H2_)|(have H2_:=(Option.bind_some _ _).symm.trans H;with_reducible exact H2_)|with_reducible exact H|(rw [hy115];exact H)|exact H
         have Ny115:=Aside0.mk hy115
         clear hy115
         replace H:=Option.bind_eq_some_iff.mp H
         obtain ⟨t118,A100,H⟩:=H
         replace H : (jlex_Lex.l0 k1 a0 y115 t118) = some (r1,r2,r3):=H
         have A10:=Aside0.mk A100
         clear A100
         have H':=Aside0.mk H
         clear H
         go_wp2_with (first|((with_reducible refine gate_dst (N:=34) rfl ?_);refine load_event rfl rfl rfl (g:=gb114) (t:=69) (cs:=#[.int .i64 t108,.string t109,.int .i64 t110,.int .i64 x6_1]) ?hb hu69 rfl (by kernel_rfl) ?_;(case hb=>((with_reducible repeat (first|apply blk_drewN|apply blk_drew|apply blk_alloc));refine blk_put (cs:=#[.int .i64 t108,.string t109,.int .i64 t110,.int .i64 t111]) ?_ 3 _ rfl;(with_reducible repeat (first|apply blk_drewN|apply blk_drew|apply blk_alloc));refine blk_put (cs:=#[.int .i64 t108,.string t109,.int .i64 t110,.int .i64 0]) ?_ 3 _ rfl;(with_reducible repeat (first|apply blk_drewN|apply blk_drew|apply blk_alloc));refine blk_put (cs:=#[.int .i64 t108,.string t109,.int .i64 0,.int .i64 0]) ?_ 2 _ rfl;(with_reducible repeat (first|apply blk_drewN|apply blk_drew|apply blk_alloc));refine blk_put (cs:=#[.int .i64 t108,.string (⟨#[]⟩ : ByteArray),.int .i64 0,.int .i64 0]) ?_ 1 _ rfl;(with_reducible repeat (first|apply blk_drewN|apply blk_drew|apply blk_alloc));refine blk_put (cs:=#[.int .i64 0,.string (⟨#[]⟩ : ByteArray),.int .i64 0,.int .i64 0]) ?_ 0 _ rfl;(with_reducible repeat (first|apply blk_drewN|apply blk_drew|apply blk_alloc));exact BK114.out)))|((with_reducible refine gate_callee (f:=44) rfl ?_);refine goesL_ (some 23) rfl rfl Tryd.func44 (by kernel_rfl) rfl #[.string (a0.extract (x6_1 : Int).toNat a0.size)] rfl (by (try simp only [List.map_toArray,List.map_cons,List.map_nil]);first|done|rfl|(simp only [List.length_drop,List.length_take];rfl)|(simp (disch:=first|omega|(simp at *;omega)) only [u64_id,i64_id,u8_id];rfl)) ?_;(with_reducible refine (jlex_word.calls k1 (a0.extract (x6_1 : Int).toNat a0.size) t108 t109 t110 t111 t112 t113 _ A7.out (by first|assumption|exact GW.below hG (by first|exact HB.out|assumption|(repeat (first|(with_reducible first|exact HB.out|apply below_alloc|apply pw_below_drewN|apply below_drew1)|exact HB.out)))|exact GW.drawn hG (by first|assumption|(repeat (first|exact Drawn0.refl _|assumption|apply Drawn0.step))))).mono ?_);rintro e w11 ⟨rfl,hb⟩;refine ⟨_,rfl,?_⟩;have n0_:=Aside0.mk (Kd.R_below (by (with_reducible repeat (first|apply Kd.R_alloc|apply Kd.R_drewN|apply Kd.R_drew));exact HO_5.out) hb);have n1_:=Aside0.mk (below_step (by repeat (first|(with_reducible first|exact HB.out|apply below_alloc|apply pw_below_drewN|apply below_drew1)|exact HB.out)) hb);clear HO_5;clear HB;have HO_5:=n0_;have HB:=n1_;clear n0_ n1_;(try clear hb);(try clear hb2);(try clear hk);(try clear hi))|((with_reducible refine gate_dst (N:=7) rfl ?_);refine box_event ?hg (N:=7) ?hd (cs:=#[.int .i64 0,.string (⟨#[]⟩ : ByteArray),.int .i64 0,.int .i64 0]) (t:=69) ?hr ?_;(case hd=>rfl);(case hg=>rfl);(case hr=>first|(go_simp;done)|(go_simp;rfl));intro gb114 hg w12 hbox hb;have n0_:=Aside0.mk (Kd.R_below (Kd.R_elderB (by (with_reducible repeat (first|apply Kd.R_alloc|apply Kd.R_drewN|apply Kd.R_drew));exact HO_5.out) gb114 (Nat.le_of_eq hg.symm)) hb);have n1_:=Aside0.mk (below_step (by repeat (first|(with_reducible first|exact HB.out|apply below_alloc|apply pw_below_drewN|apply below_drew1)|exact HB.out)) hb);have n2_:=Aside0.mk (hbox);have n3_:=Aside0.mk ((by rw [hg];exact (below_size (by repeat (first|(with_reducible first|exact HB.out|apply below_alloc|apply pw_below_drewN|apply below_drew1)|exact HB.out))) : w.heap.size ≤ gb114));have n4_:=Aside0.mk ((by rw [hg];exact (below_size (by repeat (first|(with_reducible first|exact HB.out|apply below_alloc|apply pw_below_drewN|apply below_drew1)|exact HB.out))) : w.heap.size ≤ gb114));clear HO_5;clear HB;have HO_5:=n0_;have HB:=n1_;have BK114:=n2_;have GW114:=n3_;have GE114:=n4_;clear n0_ n1_ n2_ n3_ n4_;clear hb hbox hg;have hcz13_0 : w12.cell? ⟨gb114,0,none⟩ = some (.int .i64 0):=(blk_cell BK114.out 0).trans rfl;have hcz13_1 : w12.cell? ⟨gb114,1,none⟩ = some (.string (⟨#[]⟩ : ByteArray)):=(blk_cell BK114.out 1).trans rfl;have hcz13_2 : w12.cell? ⟨gb114,2,none⟩ = some (.int .i64 0):=(blk_cell BK114.out 2).trans rfl;have hcz13_3 : w12.cell? ⟨gb114,3,none⟩ = some (.int .i64 0):=(blk_cell BK114.out 3).trans rfl;have hfz13_0:=blk_frozen BK114.out 0;have hfz13_1:=blk_frozen BK114.out 1;have hfz13_2:=blk_frozen BK114.out 2;have hfz13_3:=blk_frozen BK114.out 3)|((with_reducible refine gate_builtin (b:=.append) (xs:=#[.tmp 33,.tmp 35]) rfl ?_);at_builtin;refine Kd.R_append k69 (w0:=w) w.heap.size rfl (.tmp 33) (.tmp 35) 64 69 (.agg #[(.int .i64 0),(.string ⟨#[]⟩),(.int .i64 0),(.int .i64 0)]) 40 rfl Tryd.underlying64 info69 rfl (by decide) (by omega) u5 x5_1 (⟨t108,t109,t110,x6_1⟩ : S69) [.int .i64 t108,.string t109,.int .i64 t110,.int .i64 x6_1] (fun k_=>k_ ≠ gb114) (fun _=>False) rfl (by first|(go_simp;done)|(go_simp;rfl)) ?aP (fun _ hk=>hk.elim) ?aF ?aO ?aB ?aS ?aL ?_;(case aP=>exact k69_mkM _ _ _ (⟨t108,t109,t110,x6_1⟩ : S69));(case aB=>exact (by repeat (first|(with_reducible first|exact HB.out|apply below_alloc|apply pw_below_drewN|apply below_drew1|refine below_set ?_ GE114.out)|exact HB.out)));(case aF=>exact (fun k_ hk=>Kd.freshB (g:=gb114) (o:=.cells #[.int .i64 t108,.string t109,.int .i64 t110,.int .i64 x6_1] 69 (0,0)) (by (with_reducible repeat (first|apply blk_drewN|apply blk_drew|apply blk_alloc));refine blk_put (cs:=#[.int .i64 t108,.string t109,.int .i64 t110,.int .i64 t111]) ?_ 3 _ rfl;(with_reducible repeat (first|apply blk_drewN|apply blk_drew|apply blk_alloc));refine blk_put (cs:=#[.int .i64 t108,.string t109,.int .i64 t110,.int .i64 0]) ?_ 3 _ rfl;(with_reducible repeat (first|apply blk_drewN|apply blk_drew|apply blk_alloc));refine blk_put (cs:=#[.int .i64 t108,.string t109,.int .i64 0,.int .i64 0]) ?_ 2 _ rfl;(with_reducible repeat (first|apply blk_drewN|apply blk_drew|apply blk_alloc));refine blk_put (cs:=#[.int .i64 t108,.string (⟨#[]⟩ : ByteArray),.int .i64 0,.int .i64 0]) ?_ 1 _ rfl;(with_reducible repeat (first|apply blk_drewN|apply blk_drew|apply blk_alloc));refine blk_put (cs:=#[.int .i64 0,.string (⟨#[]⟩ : ByteArray),.int .i64 0,.int .i64 0]) ?_ 0 _ rfl;(with_reducible repeat (first|apply blk_drewN|apply blk_drew|apply blk_alloc));exact BK114.out) k_ hk));(case aO=>exact (by (with_reducible repeat (first|apply Kd.R_alloc|apply Kd.R_drewN|apply Kd.R_drew));exact Kd.R_mono (Kd.R_far (p:=⟨gb114,3,none⟩) (Kd.R_far (p:=⟨gb114,3,none⟩) (Kd.R_far (p:=⟨gb114,2,none⟩) (Kd.R_far (p:=⟨gb114,1,none⟩) (Kd.R_far (p:=⟨gb114,0,none⟩) (Kd.R_mono HO_5.out (fun k_ hk=>(⟨hk,hk.2⟩ : _ ∧ k_ ≠ gb114))) (fun _ hk=>hk.2) (.int .i64 t108)) (fun _ hk=>hk.2) (.string t109)) (fun _ hk=>hk.2) (.int .i64 t110)) (fun _ hk=>hk.2) (.int .i64 t111)) (fun _ hk=>hk.2) (.int .i64 x6_1)) (fun _ hk=>hk.1.2)));(case aS=>exact (below_size (by repeat (first|(with_reducible first|exact HB.out|apply below_alloc|apply pw_below_drewN|apply below_drew1|refine below_set ?_ GE114.out)|exact HB.out))));(case aL=>have:=LMc9.out;omega);intro v116 w14 ho hb hg hat;rw [← Ny115.out] at ho;have n0_:=Aside0.mk (blk_grown (g:=gb114) (o:=.cells #[.int .i64 t108,.string t109,.int .i64 t110,.int .i64 x6_1] 69 (0,0)) (by (with_reducible repeat (first|apply blk_drewN|apply blk_drew|apply blk_alloc));refine blk_put (cs:=#[.int .i64 t108,.string t109,.int .i64 t110,.int .i64 t111]) ?_ 3 _ rfl;(with_reducible repeat (first|apply blk_drewN|apply blk_drew|apply blk_alloc));refine blk_put (cs:=#[.int .i64 t108,.string t109,.int .i64 t110,.int .i64 0]) ?_ 3 _ rfl;(with_reducible repeat (first|apply blk_drewN|apply blk_drew|apply blk_alloc));refine blk_put (cs:=#[.int .i64 t108,.string t109,.int .i64 0,.int .i64 0]) ?_ 2 _ rfl;(with_reducible repeat (first|apply blk_drewN|apply blk_drew|apply blk_alloc));refine blk_put (cs:=#[.int .i64 t108,.string (⟨#[]⟩ : ByteArray),.int .i64 0,.int .i64 0]) ?_ 1 _ rfl;(with_reducible repeat (first|apply blk_drewN|apply blk_drew|apply blk_alloc));refine blk_put (cs:=#[.int .i64 0,.string (⟨#[]⟩ : ByteArray),.int .i64 0,.int .i64 0]) ?_ 0 _ rfl;(with_reducible repeat (first|apply blk_drewN|apply blk_drew|apply blk_alloc));exact BK114.out) hg (Kd.R_away HO_5.out (fun _ hk=>hk.2)));have n1_:=Aside0.mk (hb);have n2_:=Aside0.mk (ho);clear BK114;clear HB;clear HO_5;have BK114:=n0_;have HB:=n1_;have HO117:=n2_;clear n0_ n1_ n2_;clear ho hb hg hat)|((with_reducible refine gate_callee (f:=43) rfl ?_);refine goesL_ (some 41) rfl rfl Tryd.func43 (by kernel_rfl) rfl #[.string a0,.int .i64 (wrap64 (x6_1 + t112))] rfl (by (try simp only [List.map_toArray,List.map_cons,List.map_nil]);first|done|rfl|(simp only [List.length_drop,List.length_take];rfl)|(simp (disch:=first|omega|(simp at *;omega)) only [u64_id,i64_id,u8_id];rfl)) ?_;(with_reducible refine (jlex_skip.calls k1 a0 (wrap64 (x6_1 + t112)) t118 _ A10.out).mono ?_);rintro e w' ⟨rfl,⟨nd,rfl⟩⟩;refine ⟨_,rfl,?_⟩))
         go_roundg k1
         case measure=>have:=HK1.out;omega
         case rel=>exact ⟨(y115),(t118),(by first|rfl|(simp;done)|(simp [*];done)),H',⟨by have:=HK1.out;omega⟩,⟨by (with_reducible repeat (first|apply Kd.R_alloc|apply Kd.R_drewN|apply Kd.R_drew));exact Kd.R_mono HO117.out (fun _ hk=>trivial)⟩,⟨by repeat (first|(with_reducible first|exact HB.out|apply below_alloc|apply pw_below_drewN|apply below_drew1|refine below_set ?_ GE114.out)|exact HB.out)⟩⟩
        ·rw [if_neg c9] at H
         exact absurd H (by simp)
       ·rw [if_neg c8] at H
        have c8b0 : (t113 == 0) = false:=beq_eq_false_iff_ne.mpr c8
        have c8b1 : (t113 != 0) = true:=bne_iff_ne.mpr c8
        simp only [Option.some.injEq,Prod.mk.injEq] at H
        obtain ⟨rfl,rfl,rfl⟩:=H
        go_wp2_with (first|((with_reducible refine gate_callee (f:=44) rfl ?_);refine goesL_ (some 23) rfl rfl Tryd.func44 (by kernel_rfl) rfl #[.string (a0.extract (x6_1 : Int).toNat a0.size)] rfl (by (try simp only [List.map_toArray,List.map_cons,List.map_nil]);first|done|rfl|(simp only [List.length_drop,List.length_take];rfl)|(simp (disch:=first|omega|(simp at *;omega)) only [u64_id,i64_id,u8_id];rfl)) ?_;(with_reducible refine (jlex_word.calls k1 (a0.extract (x6_1 : Int).toNat a0.size) t108 t109 t110 t111 t112 t113 _ A7.out (by first|assumption|exact GW.below hG (by first|exact HB.out|assumption|(repeat (first|(with_reducible first|exact HB.out|apply below_alloc|apply pw_below_drewN|apply below_drew1)|exact HB.out)))|exact GW.drawn hG (by first|assumption|(repeat (first|exact Drawn0.refl _|assumption|apply Drawn0.step))))).mono ?_);rintro e w15 ⟨rfl,hb⟩;refine ⟨_,rfl,?_⟩;have n0_:=Aside0.mk (Kd.R_below (by (with_reducible repeat (first|apply Kd.R_alloc|apply Kd.R_drewN|apply Kd.R_drew));exact HO_5.out) hb);have n1_:=Aside0.mk (below_step (by repeat (first|(with_reducible first|exact HB.out|apply below_alloc|apply pw_below_drewN|apply below_drew1)|exact HB.out)) hb);clear HO_5;clear HB;have HO_5:=n0_;have HB:=n1_;clear n0_ n1_;(try clear hb);(try clear hb2);(try clear hk);(try clear hi))|((with_reducible refine gate_dst (N:=7) rfl ?_);refine box_event ?hg (N:=7) ?hd (cs:=#[.int .i64 0,.string (⟨#[]⟩ : ByteArray),.int .i64 0,.int .i64 0]) (t:=69) ?hr ?_;(case hd=>rfl);(case hg=>rfl);(case hr=>first|(go_simp;done)|(go_simp;rfl));intro gb114 hg w16 hbox hb;have n0_:=Aside0.mk (Kd.R_below (Kd.R_elderB (by (with_reducible repeat (first|apply Kd.R_alloc|apply Kd.R_drewN|apply Kd.R_drew));exact HO_5.out) gb114 (Nat.le_of_eq hg.symm)) hb);have n1_:=Aside0.mk (below_step (by repeat (first|(with_reducible first|exact HB.out|apply below_alloc|apply pw_below_drewN|apply below_drew1)|exact HB.out)) hb);have n2_:=Aside0.mk (hbox);have n3_:=Aside0.mk ((by rw [hg];exact (below_size (by repeat (first|(with_reducible first|exact HB.out|apply below_alloc|apply pw_below_drewN|apply below_drew1)|exact HB.out))) : w.heap.size ≤ gb114));have n4_:=Aside0.mk ((by rw [hg];exact (below_size (by repeat (first|(with_reducible first|exact HB.out|apply below_alloc|apply pw_below_drewN|apply below_drew1)|exact HB.out))) : w.heap.size ≤ gb114));clear HO_5;clear HB;have HO_5:=n0_;have HB:=n1_;have BK114:=n2_;have GW114:=n3_;have GE114:=n4_;clear n0_ n1_ n2_ n3_ n4_;clear hb hbox hg;have hcz17_0 : w16.cell? ⟨gb114,0,none⟩ = some (.int .i64 0):=(blk_cell BK114.out 0).trans rfl;have hcz17_1 : w16.cell? ⟨gb114,1,none⟩ = some (.string (⟨#[]⟩ : ByteArray)):=(blk_cell BK114.out 1).trans rfl;have hcz17_2 : w16.cell? ⟨gb114,2,none⟩ = some (.int .i64 0):=(blk_cell BK114.out 2).trans rfl;have hcz17_3 : w16.cell? ⟨gb114,3,none⟩ = some (.int .i64 0):=(blk_cell BK114.out 3).trans rfl;have hfz17_0:=blk_frozen BK114.out 0;have hfz17_1:=blk_frozen BK114.out 1;have hfz17_2:=blk_frozen BK114.out 2;have hfz17_3:=blk_frozen BK114.out 3))
        go_ret3
        exact ⟨_,by first|rfl|(simp [errW_none,errW_some] <;> rfl)|(simp [*,errW_none,errW_some] <;> rfl),by first|exact Kd.R_nil _ _ _ _ _|exact Kd.N_nil _ _ _ _ _|exact Kd.V_nil _ _ _ _ _|exact Kd.Q_nil _ _ _ _ _|exact Kd.S_nil _ _ _ _ _,by repeat (first|(with_reducible first|exact HB.out|apply below_alloc|apply pw_below_drewN|apply below_drew1|refine below_set ?_ GE114.out)|exact HB.out)⟩
      ·rw [if_neg c6] at H
       exact absurd H (by simp)
     ·rw [if_neg c5] at H
      exact absurd H (by simp)
    ·rw [if_neg c4] at H
     have c4b0 : decide (x6_1 < (a0.size : Int)) = false:=decide_eq_false c4
     clear c4
     by_cases c18 : x5_1.length < 3518437208883
     ·rw [if_pos c18] at H
      have LMc18:=Aside0.mk c18
      clear c18
      obtain ⟨y105,hy105⟩ : ∃ y_ : List (S69),y_ = (x5_1 ++ [(⟨11,(⟨#[]⟩ : ByteArray),0,(a0.size : Int)⟩ : S69)]):=⟨_,rfl⟩
      replace H : (some (y105,0,0)) = some (r1,r2,r3):=by first|(rw [hy105];with_reducible exact H)|(have H2_:=(Option.bind_some _ _).symm.trans H;rw [hy105];with_reducible exact H2_)|(have H2_:=(Option.bind_some _ _).symm.trans H;with_reducible exact H2_)|with_reducible exact H|(rw [hy105];exact H)|exact H
      have Ny105:=Aside0.mk hy105
      clear hy105
      simp only [Option.some.injEq,Prod.mk.injEq] at H
      obtain ⟨rfl,rfl,rfl⟩:=H
      go_wp2_with (first|((with_reducible refine gate_builtin (b:=.append) (xs:=#[.tmp 42,.tmp 46]) rfl ?_);at_builtin;refine Kd.R_append k69 (w0:=w) w.heap.size rfl (.tmp 42) (.tmp 46) 64 69 (.agg #[(.int .i64 0),(.string ⟨#[]⟩),(.int .i64 0),(.int .i64 0)]) 40 rfl Tryd.underlying64 info69 rfl (by decide) (by omega) u5 x5_1 (⟨11,(⟨#[]⟩ : ByteArray),0,(a0.size : Int)⟩ : S69) [.int .i64 11,.string (⟨#[]⟩ : ByteArray),.int .i64 0,.int .i64 (a0.size : Int)] (fun _=>True) (fun _=>False) rfl rfl ?aP (fun _ hk=>hk.elim) ?aF ?aO ?aB ?aS ?aL ?_;(case aP=>exact k69_mkM _ _ _ (⟨11,(⟨#[]⟩ : ByteArray),0,(a0.size : Int)⟩ : S69));(case aB=>exact (by repeat (first|(with_reducible first|exact HB.out|apply below_alloc|apply pw_below_drewN|apply below_drew1)|exact HB.out)));(case aF=>exact (fun _ _=>trivial));(case aO=>exact (by (with_reducible repeat (first|apply Kd.R_alloc|apply Kd.R_drewN|apply Kd.R_drew));exact HO_5.out));(case aS=>exact (below_size (by repeat (first|(with_reducible first|exact HB.out|apply below_alloc|apply pw_below_drewN|apply below_drew1)|exact HB.out))));(case aL=>have:=LMc18.out;omega);intro v106 w19 ho hb hg hat;rw [← Ny105.out] at ho;have n0_:=Aside0.mk (hb);have n1_:=Aside0.mk (ho);clear HB;clear HO_5;have HB:=n0_;have HO107:=n1_;clear n0_ n1_;clear ho hb hg hat))
      go_ret3
      exact ⟨_,by first|rfl|(simp [errW_none,errW_some] <;> rfl)|(simp [*,errW_none,errW_some] <;> rfl),by (with_reducible repeat (first|apply Kd.R_alloc|apply Kd.R_drewN|apply Kd.R_drew));exact HO107.out,by repeat (first|(with_reducible first|exact HB.out|apply below_alloc|apply pw_below_drewN|apply below_drew1)|exact HB.out)⟩
     ·rw [if_neg c18] at H
      exact absurd H (by simp)

end Go.Proofs.YtnkkbiabloodaaaDoor.GUt
