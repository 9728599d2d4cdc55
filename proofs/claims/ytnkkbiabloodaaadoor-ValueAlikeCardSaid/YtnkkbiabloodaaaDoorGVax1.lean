/- Written by this session's own program (wip/gen.py) out of the translation: plain Lean functions of the Go functions, and proofs that the calls come to their answers. No conditions beside those in the statements. -/
import Derived.Test.YtnkkbiabloodaaaDoorGVax0
namespace Go.Proofs.YtnkkbiabloodaaaDoor.GVa
open Go.RowKit Go.Proofs.YtnkkbiabloodaaaDoorW.PrintWords Go.Proofs.YtnkkbiabloodaaaDoorW.PrintLast Go.Proofs.YtnkkbiabloodaaaDoorW.PrintMore
attribute [local go_sem] max2_int min2_int max_two min_two max_three min_three max_four min_four   -- for this text's walks alone
set_option linter.unusedVariables false
set_option linter.unusedSimpArgs false

/-! ### bosunlaw05_Small: function 8 -/
def bosunlaw05_Small.l0 : Nat → List (S75) → Int → List (S75) → Int → Int → Option (Bool)
 | 0,_,_,_,_,_=>none
 | k + 1,x0,x3,x6,x7,x8=>if x8 < x7 then (if 0 ≤ x8 then (if x8 < (x6.length : Int) then (if (wrap64 (x3 + (wrap64 ((((rd_T75 x6 x8).f4).size : Int) * (1 + (mx 0 (mn ((rd_T75 x6 x8).f1) 80))))))) > 40000 then (some false) else (bosunlaw05_Small.l0 k x0 (wrap64 (x3 + (wrap64 ((((rd_T75 x6 x8).f4).size : Int) * (1 + (mx 0 (mn ((rd_T75 x6 x8).f1) 80))))))) x6 x7 (wrap64 (x8 + 1)))) else (none)) else (none)) else (some (decide ((x0.length : Int) ≤ 80)))
def bosunlaw05_Small.f (k : Nat) (l0 : List (S75)) : Option (Bool):=bosunlaw05_Small.l0 k l0 0 l0 (l0.length : Int) 0
theorem bosunlaw05_Small.mono_l : ∀ k,(∀ y0 y1 y2 y3 y4,LeO (bosunlaw05_Small.l0 k y0 y1 y2 y3 y4) (bosunlaw05_Small.l0 (k + 1) y0 y1 y2 y3 y4))
 | 0=>fun _ _ _ _ _ r h=>by simp [bosunlaw05_Small.l0] at h
 | k + 1=>by
  have ih0:=bosunlaw05_Small.mono_l k
  ·intro y0 y1 y2 y3 y4
   unfold bosunlaw05_Small.l0
   repeat' first
   | (with_reducible exact ih0 _ _ _ _ _)
   | (with_reducible exact LeO.refl _)
   | (with_reducible exact LeO.none _)
   | (with_reducible refine LeO.ite ?_ ?_)
   | (with_reducible refine LeO.bind ?_ (fun _=>?_))
   | exact ih0 _ _ _ _ _
   | exact LeO.none _
   | refine LeO.ite ?_ ?_
   | refine LeO.bind ?_ (fun _=>?_)
theorem bosunlaw05_Small.mono : ∀ a0 k,LeO (bosunlaw05_Small.f k a0) (bosunlaw05_Small.f (k + 1) a0):=by
 intro a0 k
 have ih0:=bosunlaw05_Small.mono_l k
 unfold bosunlaw05_Small.f
 repeat' first
   | (with_reducible exact ih0 _ _ _ _ _)
   | (with_reducible exact LeO.refl _)
   | (with_reducible exact LeO.none _)
   | (with_reducible refine LeO.ite ?_ ?_)
   | (with_reducible refine LeO.bind ?_ (fun _=>?_))
   | exact ih0 _ _ _ _ _
   | exact LeO.none _
   | refine LeO.ite ?_ ?_
   | refine LeO.bind ?_ (fun _=>?_)
set_option maxHeartbeats 8000000 in
set_option maxRecDepth 100000 in
theorem bosunlaw05_Small.calls (k : Nat) (A0 : Option Addr) (c0 : Nat) (l0 : List (S75)) (r : Bool) (w : World) (hr0 : Kd.C k75 w A0 l0.length l0) (hc0 : l0.length ≤ c0) (h : bosunlaw05_Small.f k l0 = some r) :
  Calls Tryd.prog 8 #[.slice A0 l0.length c0] w fun e w'=>e = .returned (.bool r) ∧ Below w.heap.size w w':=by
 have hu75:=Tryd.underlying75
 have HR0:=Aside0.mk hr0
 have HC0:=Aside0.mk hc0
 clear hr0 hc0
 have HB:=Aside0.mk (Below.refl w.heap.size w)
 have H : (bosunlaw05_Small.l0 k l0 0 l0 (l0.length : Int) 0) = some r:=h
 clear h
 have H':=Aside0.mk H
 clear H
 go_enter Tryd.func8,Tryd.ntmps8
 go_wp2
 go_loopg [3,8] k (fun kq v3 v8 w'=>∃ (x3_1 : Int) (x8_1 : Int),v3 = .int .i64 x3_1 ∧ v8 = .int .i64 x8_1 ∧ Aside0 (bosunlaw05_Small.l0 kq l0 x3_1 l0 (l0.length : Int) x8_1 = some r) ∧ Aside0 (kq ≤ k) ∧ Aside0 (Below w.heap.size w w'))
 case atStart=>exact ⟨(0),(0),(by first|rfl|(simp;done)|(simp [*];done)),(by first|rfl|(simp;done)|(simp [*];done)),H',⟨Nat.le_refl _⟩,⟨by repeat (first|(with_reducible first|exact HB.out|apply below_alloc|apply pw_below_drewN|apply below_drew1)|exact HB.out)⟩⟩
 case round =>
  clear H'
  obtain ⟨x3_1,x8_1,rfl,rfl,HA,HK1,HB⟩:=hrel
  cases gk with
  | zero=>exact absurd HA.out (by simp [bosunlaw05_Small.l0])
  | succ k1 =>
   have H:=HA.out
   clear HA
   simp only [bosunlaw05_Small.l0] at H
   by_cases c2 : x8_1 < (l0.length : Int)
   ·rw [if_pos c2] at H
    have c2b0 : decide (x8_1 < (l0.length : Int)) = true:=decide_eq_true c2
    clear c2
    by_cases c3 : 0 ≤ x8_1
    ·rw [if_pos c3] at H
     have c3b0 : decide (0 ≤ x8_1) = true:=decide_eq_true c3
     clear c3
     by_cases c4 : x8_1 < (l0.length : Int)
     ·rw [if_pos c4] at H
      have c4b0 : decide (x8_1 < (l0.length : Int)) = true:=decide_eq_true c4
      clear c4
      obtain ⟨ji5,hji5⟩ : ∃ j_ : Int,(mn ((rd_T75 l0 x8_1).f1) 80) = j_:=⟨_,rfl⟩
      replace H : (if (wrap64 (x3_1 + (wrap64 ((((rd_T75 l0 x8_1).f4).size : Int) * (1 + (mx 0 (ji5))))))) > 40000 then (some false) else (bosunlaw05_Small.l0 k1 l0 (wrap64 (x3_1 + (wrap64 ((((rd_T75 l0 x8_1).f4).size : Int) * (1 + (mx 0 (ji5))))))) l0 (l0.length : Int) (wrap64 (x8_1 + 1)))) = some r:=by first|(rw [hji5] at H;exact H)|(simp only [hji5] at H ⊢;exact H)
      have hji5_ : (if 80 < ((rd_T75 l0 x8_1).f1) then 80 else ((rd_T75 l0 x8_1).f1)) = ji5:=hji5
      obtain ⟨ji6,hji6⟩ : ∃ j_ : Int,(mx 0 (ji5)) = j_:=⟨_,rfl⟩
      replace H : (if (wrap64 (x3_1 + (wrap64 ((((rd_T75 l0 x8_1).f4).size : Int) * (1 + (ji6)))))) > 40000 then (some false) else (bosunlaw05_Small.l0 k1 l0 (wrap64 (x3_1 + (wrap64 ((((rd_T75 l0 x8_1).f4).size : Int) * (1 + (ji6)))))) l0 (l0.length : Int) (wrap64 (x8_1 + 1)))) = some r:=by first|(rw [hji6] at H;exact H)|(simp only [hji6] at H ⊢;exact H)
      have hji6_ : (if 0 < (ji5) then (ji5) else 0) = ji6:=hji6
      by_cases c7 : (wrap64 (x3_1 + (wrap64 ((((rd_T75 l0 x8_1).f4).size : Int) * (1 + (ji6)))))) > 40000
      ·rw [if_pos c7] at H
       have c7b0 : decide (40000 < (wrap64 (x3_1 + (wrap64 ((((rd_T75 l0 x8_1).f4).size : Int) * (1 + (ji6))))))) = true:=decide_eq_true c7
       clear c7
       obtain rfl:=Option.some.inj H
       have p101 : 0 ≤ (x8_1 : Int):=of_decide_eq_true (by first|(with_reducible assumption)|assumption)
       have q101 : x8_1 < (l0.length : Int):=of_decide_eq_true (by first|(with_reducible assumption)|assumption)
       obtain ⟨ad101,e101,hx101_0,hx101_1,hx101_2,hx101_3,hx101_4⟩:=at_T75 HR0.out x8_1 p101 q101
       cases e101
       replace hx101_0:=(HB.out.cell (World.block_lt_of_cell? w _ hx101_0)).trans hx101_0
       replace hx101_1:=(HB.out.cell (World.block_lt_of_cell? w _ hx101_1)).trans hx101_1
       replace hx101_2:=(HB.out.cell (World.block_lt_of_cell? w _ hx101_2)).trans hx101_2
       replace hx101_3:=(HB.out.cell (World.block_lt_of_cell? w _ hx101_3)).trans hx101_3
       replace hx101_4:=(HB.out.cell (World.block_lt_of_cell? w _ hx101_4)).trans hx101_4
       replace p101:=eq_true p101
       replace q101:=eq_true q101
       go_wp2_with (first|((with_reducible refine gate_dst (N:=5) rfl ?_);refine box_event ?hg (N:=5) ?hd (cs:=#[.int .i64 0,.int .i64 0,.bool false,.int .i64 0,.string (⟨#[]⟩ : ByteArray)]) (t:=75) ?hr ?_;(case hd=>rfl);(case hg=>rfl);(case hr=>first|(go_simp;done)|(go_simp;rfl));intro gb102 hg w8 hbox hb;have n0_:=Aside0.mk (below_step (by repeat (first|(with_reducible first|exact HB.out|apply below_alloc|apply pw_below_drewN|apply below_drew1)|exact HB.out)) hb);have n1_:=Aside0.mk (hbox);have n2_:=Aside0.mk ((by rw [hg];exact (below_size (by repeat (first|(with_reducible first|exact HB.out|apply below_alloc|apply pw_below_drewN|apply below_drew1)|exact HB.out))) : w.heap.size ≤ gb102));have n3_:=Aside0.mk ((by rw [hg];exact (below_size (by repeat (first|(with_reducible first|exact HB.out|apply below_alloc|apply pw_below_drewN|apply below_drew1)|exact HB.out))) : w.heap.size ≤ gb102));clear HB;have HB:=n0_;have BK102:=n1_;have GW102:=n2_;have GE102:=n3_;clear n0_ n1_ n2_ n3_;clear hb hbox hg;have hcz9_0 : w8.cell? ⟨gb102,0,none⟩ = some (.int .i64 0):=(blk_cell BK102.out 0).trans rfl;have hcz9_1 : w8.cell? ⟨gb102,1,none⟩ = some (.int .i64 0):=(blk_cell BK102.out 1).trans rfl;have hcz9_2 : w8.cell? ⟨gb102,2,none⟩ = some (.bool false):=(blk_cell BK102.out 2).trans rfl;have hcz9_3 : w8.cell? ⟨gb102,3,none⟩ = some (.int .i64 0):=(blk_cell BK102.out 3).trans rfl;have hcz9_4 : w8.cell? ⟨gb102,4,none⟩ = some (.string (⟨#[]⟩ : ByteArray)):=(blk_cell BK102.out 4).trans rfl;have hfz9_0:=blk_frozen BK102.out 0;have hfz9_1:=blk_frozen BK102.out 1;have hfz9_2:=blk_frozen BK102.out 2;have hfz9_3:=blk_frozen BK102.out 3;have hfz9_4:=blk_frozen BK102.out 4))
       go_ret
       exact ⟨by first|rfl|(simp [errW_none,errW_some] <;> rfl)|(simp only [← hji5,← hji6];first|rfl|(simp [errW_none,errW_some] <;> rfl))|(simp [*,errW_none,errW_some] <;> rfl),by repeat (first|(with_reducible first|exact HB.out|apply below_alloc|apply pw_below_drewN|apply below_drew1|refine below_set ?_ GE102.out)|exact HB.out)⟩
      ·rw [if_neg c7] at H
       have c7b0 : decide (40000 < (wrap64 (x3_1 + (wrap64 ((((rd_T75 l0 x8_1).f4).size : Int) * (1 + (ji6))))))) = false:=decide_eq_false c7
       clear c7
       have H':=Aside0.mk H
       clear H
       have p101 : 0 ≤ (x8_1 : Int):=of_decide_eq_true (by first|(with_reducible assumption)|assumption)
       have q101 : x8_1 < (l0.length : Int):=of_decide_eq_true (by first|(with_reducible assumption)|assumption)
       obtain ⟨ad101,e101,hx101_0,hx101_1,hx101_2,hx101_3,hx101_4⟩:=at_T75 HR0.out x8_1 p101 q101
       cases e101
       replace hx101_0:=(HB.out.cell (World.block_lt_of_cell? w _ hx101_0)).trans hx101_0
       replace hx101_1:=(HB.out.cell (World.block_lt_of_cell? w _ hx101_1)).trans hx101_1
       replace hx101_2:=(HB.out.cell (World.block_lt_of_cell? w _ hx101_2)).trans hx101_2
       replace hx101_3:=(HB.out.cell (World.block_lt_of_cell? w _ hx101_3)).trans hx101_3
       replace hx101_4:=(HB.out.cell (World.block_lt_of_cell? w _ hx101_4)).trans hx101_4
       replace p101:=eq_true p101
       replace q101:=eq_true q101
       go_wp2_with (first|((with_reducible refine gate_dst (N:=5) rfl ?_);refine box_event ?hg (N:=5) ?hd (cs:=#[.int .i64 0,.int .i64 0,.bool false,.int .i64 0,.string (⟨#[]⟩ : ByteArray)]) (t:=75) ?hr ?_;(case hd=>rfl);(case hg=>rfl);(case hr=>first|(go_simp;done)|(go_simp;rfl));intro gb102 hg w10 hbox hb;have n0_:=Aside0.mk (below_step (by repeat (first|(with_reducible first|exact HB.out|apply below_alloc|apply pw_below_drewN|apply below_drew1)|exact HB.out)) hb);have n1_:=Aside0.mk (hbox);have n2_:=Aside0.mk ((by rw [hg];exact (below_size (by repeat (first|(with_reducible first|exact HB.out|apply below_alloc|apply pw_below_drewN|apply below_drew1)|exact HB.out))) : w.heap.size ≤ gb102));have n3_:=Aside0.mk ((by rw [hg];exact (below_size (by repeat (first|(with_reducible first|exact HB.out|apply below_alloc|apply pw_below_drewN|apply below_drew1)|exact HB.out))) : w.heap.size ≤ gb102));clear HB;have HB:=n0_;have BK102:=n1_;have GW102:=n2_;have GE102:=n3_;clear n0_ n1_ n2_ n3_;clear hb hbox hg;have hcz11_0 : w10.cell? ⟨gb102,0,none⟩ = some (.int .i64 0):=(blk_cell BK102.out 0).trans rfl;have hcz11_1 : w10.cell? ⟨gb102,1,none⟩ = some (.int .i64 0):=(blk_cell BK102.out 1).trans rfl;have hcz11_2 : w10.cell? ⟨gb102,2,none⟩ = some (.bool false):=(blk_cell BK102.out 2).trans rfl;have hcz11_3 : w10.cell? ⟨gb102,3,none⟩ = some (.int .i64 0):=(blk_cell BK102.out 3).trans rfl;have hcz11_4 : w10.cell? ⟨gb102,4,none⟩ = some (.string (⟨#[]⟩ : ByteArray)):=(blk_cell BK102.out 4).trans rfl;have hfz11_0:=blk_frozen BK102.out 0;have hfz11_1:=blk_frozen BK102.out 1;have hfz11_2:=blk_frozen BK102.out 2;have hfz11_3:=blk_frozen BK102.out 3;have hfz11_4:=blk_frozen BK102.out 4))
       go_roundg k1
       case measure=>have:=HK1.out;omega
       case rel=>exact ⟨(wrap64 (x3_1 + (wrap64 ((((rd_T75 l0 x8_1).f4).size : Int) * (1 + (ji6)))))),(wrap64 (x8_1 + 1)),(by first|rfl|(simp;done)|(simp only [← hji6] <;> (first|rfl|simp))|(simp [*];done)),(by first|rfl|(simp;done)|(simp [*];done)),H',⟨by have:=HK1.out;omega⟩,⟨by repeat (first|(with_reducible first|exact HB.out|apply below_alloc|apply pw_below_drewN|apply below_drew1|refine below_set ?_ GE102.out)|exact HB.out)⟩⟩
     ·rw [if_neg c4] at H
      exact absurd H (by simp)
    ·rw [if_neg c3] at H
     exact absurd H (by simp)
   ·rw [if_neg c2] at H
    have c2b0 : decide (x8_1 < (l0.length : Int)) = false:=decide_eq_false c2
    clear c2
    obtain rfl:=Option.some.inj H
    go_wp2
    go_ret
    exact ⟨by first|rfl|(simp [errW_none,errW_some] <;> rfl)|(simp [*,errW_none,errW_some] <;> rfl),by repeat (first|(with_reducible first|exact HB.out|apply below_alloc|apply pw_below_drewN|apply below_drew1)|exact HB.out)⟩

/-! ### value_Of: function 15 -/
def value_Of.f (a0 : ByteArray) : Option (Int × Bool × Int × ByteArray × (List (S29)) × (List (S48))):=some (3,false,0,a0,([] : List (S29)),([] : List (S48)))
set_option maxHeartbeats 8000000 in
set_option maxRecDepth 100000 in
theorem value_Of.calls (a0 : ByteArray) (r1 : Int) (r2 : Bool) (r3 : Int) (r4 : ByteArray) (r5 : List (S29)) (r6 : List (S48)) (w : World) (h : value_Of.f a0 = some (r1,r2,r3,r4,r5,r6)) :
  Calls Tryd.prog 15 #[.string a0] w fun e w'=>∃ v4_ v5_ : Value,e = .returned (.agg #[.int .i64 r1,.bool r2,.int .i64 r3,.string r4,v4_,v5_]) ∧ Kd.R k29 29 w' w.heap.size (fun k_=>some k_ ≠ (v5_ : Value).ownBlock) v4_ r5 ∧ Kd.R k48 48 w' w.heap.size (fun k_=>some k_ ≠ (v4_ : Value).ownBlock) v5_ r6 ∧ Below w.heap.size w w':=by
 have hu29:=Tryd.underlying29
 have HB:=Aside0.mk (Below.refl w.heap.size w)
 have H : (some (3,false,0,a0,([] : List (S29)),([] : List (S48)))) = some (r1,r2,r3,r4,r5,r6):=h
 clear h
 simp only [Option.some.injEq,Prod.mk.injEq] at H
 obtain ⟨rfl,rfl,rfl,rfl,rfl,rfl⟩:=H
 go_enter Tryd.func15,Tryd.ntmps15
 go_wp2_with (first|((with_reducible refine gate_dst (N:=2) rfl ?_);refine box_event ?hg (N:=2) ?hd (cs:=#[.int .i64 0,.bool false,.int .i64 0,.string (⟨#[]⟩ : ByteArray),.slice none 0 0,.slice none 0 0]) (t:=29) ?hr ?_;(case hd=>rfl);(case hg=>rfl);(case hr=>first|(go_simp;done)|(go_simp;rfl));intro gb103 hg w2 hbox hb;have n0_:=Aside0.mk (below_step (by repeat (first|(with_reducible first|exact HB.out|apply below_alloc|apply pw_below_drewN|apply below_drew1)|exact HB.out)) hb);have n1_:=Aside0.mk (hbox);have n2_:=Aside0.mk ((by rw [hg];exact (below_size (by repeat (first|(with_reducible first|exact HB.out|apply below_alloc|apply pw_below_drewN|apply below_drew1)|exact HB.out))) : w.heap.size ≤ gb103));have n3_:=Aside0.mk ((by rw [hg];exact (below_size (by repeat (first|(with_reducible first|exact HB.out|apply below_alloc|apply pw_below_drewN|apply below_drew1)|exact HB.out))) : w.heap.size ≤ gb103));clear HB;have HB:=n0_;have BK103:=n1_;have GW103:=n2_;have GE103:=n3_;clear n0_ n1_ n2_ n3_;clear hb hbox hg;have hcz3_0 : w2.cell? ⟨gb103,0,none⟩ = some (.int .i64 0):=(blk_cell BK103.out 0).trans rfl;have hcz3_1 : w2.cell? ⟨gb103,1,none⟩ = some (.bool false):=(blk_cell BK103.out 1).trans rfl;have hcz3_2 : w2.cell? ⟨gb103,2,none⟩ = some (.int .i64 0):=(blk_cell BK103.out 2).trans rfl;have hcz3_3 : w2.cell? ⟨gb103,3,none⟩ = some (.string (⟨#[]⟩ : ByteArray)):=(blk_cell BK103.out 3).trans rfl;have hcz3_4 : w2.cell? ⟨gb103,4,none⟩ = some (.slice none 0 0):=(blk_cell BK103.out 4).trans rfl;have hcz3_5 : w2.cell? ⟨gb103,5,none⟩ = some (.slice none 0 0):=(blk_cell BK103.out 5).trans rfl;have hfz3_0:=blk_frozen BK103.out 0;have hfz3_1:=blk_frozen BK103.out 1;have hfz3_2:=blk_frozen BK103.out 2;have hfz3_3:=blk_frozen BK103.out 3;have hfz3_4:=blk_frozen BK103.out 4;have hfz3_5:=blk_frozen BK103.out 5))
 refine bodyPost_ret (results_cell_row rfl _ _ gb103 29 #[.int .i64 3,.bool false,.int .i64 0,.string a0,.slice none 0 0,.slice none 0 0] (0,0) _ rfl (by (with_reducible repeat (first|apply blk_drewN|apply blk_drew|apply blk_alloc));refine blk_put (cs:=#[.int .i64 3,.bool false,.int .i64 0,.string a0,.slice none 0 0,.slice none 0 0]) ?_ 5 _ rfl;(with_reducible repeat (first|apply blk_drewN|apply blk_drew|apply blk_alloc));refine blk_put (cs:=#[.int .i64 3,.bool false,.int .i64 0,.string a0,.slice none 0 0,.slice none 0 0]) ?_ 4 _ rfl;(with_reducible repeat (first|apply blk_drewN|apply blk_drew|apply blk_alloc));refine blk_put (cs:=#[.int .i64 3,.bool false,.int .i64 0,.string (⟨#[]⟩ : ByteArray),.slice none 0 0,.slice none 0 0]) ?_ 3 _ rfl;(with_reducible repeat (first|apply blk_drewN|apply blk_drew|apply blk_alloc));refine blk_put (cs:=#[.int .i64 3,.bool false,.int .i64 0,.string (⟨#[]⟩ : ByteArray),.slice none 0 0,.slice none 0 0]) ?_ 2 _ rfl;(with_reducible repeat (first|apply blk_drewN|apply blk_drew|apply blk_alloc));refine blk_put (cs:=#[.int .i64 3,.bool false,.int .i64 0,.string (⟨#[]⟩ : ByteArray),.slice none 0 0,.slice none 0 0]) ?_ 1 _ rfl;(with_reducible repeat (first|apply blk_drewN|apply blk_drew|apply blk_alloc));refine blk_put (cs:=#[.int .i64 0,.bool false,.int .i64 0,.string (⟨#[]⟩ : ByteArray),.slice none 0 0,.slice none 0 0]) ?_ 0 _ rfl;(with_reducible repeat (first|apply blk_drewN|apply blk_drew|apply blk_alloc));exact BK103.out) Tryd.underlying29 rfl (by kernel_rfl)) rfl ?_
 exact ⟨_,_,by first|rfl|(simp [errW_none,errW_some] <;> rfl)|(simp [*,errW_none,errW_some] <;> rfl),by first|exact Kd.R_nil _ _ _ _ _|exact Kd.N_nil _ _ _ _ _|exact Kd.V_nil _ _ _ _ _|exact Kd.Q_nil _ _ _ _ _|exact Kd.S_nil _ _ _ _ _,by first|exact Kd.R_nil _ _ _ _ _|exact Kd.N_nil _ _ _ _ _|exact Kd.V_nil _ _ _ _ _|exact Kd.Q_nil _ _ _ _ _|exact Kd.S_nil _ _ _ _ _,by repeat (first|(with_reducible first|exact HB.out|apply below_alloc|apply pw_below_drewN|apply below_drew1|refine below_set ?_ GE103.out)|exact HB.out)⟩

/-! ### value_Whole: function 16 -/
def value_Whole.f (a0 : Int) : Option (Int × Bool × Int × ByteArray × (List (S29)) × (List (S48))):=some (2,false,a0,(⟨#[]⟩ : ByteArray),([] : List (S29)),([] : List (S48)))
set_option maxHeartbeats 8000000 in
set_option maxRecDepth 100000 in
theorem value_Whole.calls (a0 : Int) (r1 : Int) (r2 : Bool) (r3 : Int) (r4 : ByteArray) (r5 : List (S29)) (r6 : List (S48)) (w : World) (h : value_Whole.f a0 = some (r1,r2,r3,r4,r5,r6)) :
  Calls Tryd.prog 16 #[.int .i64 a0] w fun e w'=>∃ v4_ v5_ : Value,e = .returned (.agg #[.int .i64 r1,.bool r2,.int .i64 r3,.string r4,v4_,v5_]) ∧ Kd.R k29 29 w' w.heap.size (fun k_=>some k_ ≠ (v5_ : Value).ownBlock) v4_ r5 ∧ Kd.R k48 48 w' w.heap.size (fun k_=>some k_ ≠ (v4_ : Value).ownBlock) v5_ r6 ∧ Below w.heap.size w w':=by
 have hu29:=Tryd.underlying29
 have HB:=Aside0.mk (Below.refl w.heap.size w)
 have H : (some (2,false,a0,(⟨#[]⟩ : ByteArray),([] : List (S29)),([] : List (S48)))) = some (r1,r2,r3,r4,r5,r6):=h
 clear h
 simp only [Option.some.injEq,Prod.mk.injEq] at H
 obtain ⟨rfl,rfl,rfl,rfl,rfl,rfl⟩:=H
 go_enter Tryd.func16,Tryd.ntmps16
 go_wp2_with (first|((with_reducible refine gate_dst (N:=2) rfl ?_);refine box_event ?hg (N:=2) ?hd (cs:=#[.int .i64 0,.bool false,.int .i64 0,.string (⟨#[]⟩ : ByteArray),.slice none 0 0,.slice none 0 0]) (t:=29) ?hr ?_;(case hd=>rfl);(case hg=>rfl);(case hr=>first|(go_simp;done)|(go_simp;rfl));intro gb104 hg w2 hbox hb;have n0_:=Aside0.mk (below_step (by repeat (first|(with_reducible first|exact HB.out|apply below_alloc|apply pw_below_drewN|apply below_drew1)|exact HB.out)) hb);have n1_:=Aside0.mk (hbox);have n2_:=Aside0.mk ((by rw [hg];exact (below_size (by repeat (first|(with_reducible first|exact HB.out|apply below_alloc|apply pw_below_drewN|apply below_drew1)|exact HB.out))) : w.heap.size ≤ gb104));have n3_:=Aside0.mk ((by rw [hg];exact (below_size (by repeat (first|(with_reducible first|exact HB.out|apply below_alloc|apply pw_below_drewN|apply below_drew1)|exact HB.out))) : w.heap.size ≤ gb104));clear HB;have HB:=n0_;have BK104:=n1_;have GW104:=n2_;have GE104:=n3_;clear n0_ n1_ n2_ n3_;clear hb hbox hg;have hcz3_0 : w2.cell? ⟨gb104,0,none⟩ = some (.int .i64 0):=(blk_cell BK104.out 0).trans rfl;have hcz3_1 : w2.cell? ⟨gb104,1,none⟩ = some (.bool false):=(blk_cell BK104.out 1).trans rfl;have hcz3_2 : w2.cell? ⟨gb104,2,none⟩ = some (.int .i64 0):=(blk_cell BK104.out 2).trans rfl;have hcz3_3 : w2.cell? ⟨gb104,3,none⟩ = some (.string (⟨#[]⟩ : ByteArray)):=(blk_cell BK104.out 3).trans rfl;have hcz3_4 : w2.cell? ⟨gb104,4,none⟩ = some (.slice none 0 0):=(blk_cell BK104.out 4).trans rfl;have hcz3_5 : w2.cell? ⟨gb104,5,none⟩ = some (.slice none 0 0):=(blk_cell BK104.out 5).trans rfl;have hfz3_0:=blk_frozen BK104.out 0;have hfz3_1:=blk_frozen BK104.out 1;have hfz3_2:=blk_frozen BK104.out 2;have hfz3_3:=blk_frozen BK104.out 3;have hfz3_4:=blk_frozen BK104.out 4;have hfz3_5:=blk_frozen BK104.out 5))
 refine bodyPost_ret (results_cell_row rfl _ _ gb104 29 #[.int .i64 2,.bool false,.int .i64 a0,.string (⟨#[]⟩ : ByteArray),.slice none 0 0,.slice none 0 0] (0,0) _ rfl (by (with_reducible repeat (first|apply blk_drewN|apply blk_drew|apply blk_alloc));refine blk_put (cs:=#[.int .i64 2,.bool false,.int .i64 a0,.string (⟨#[]⟩ : ByteArray),.slice none 0 0,.slice none 0 0]) ?_ 5 _ rfl;(with_reducible repeat (first|apply blk_drewN|apply blk_drew|apply blk_alloc));refine blk_put (cs:=#[.int .i64 2,.bool false,.int .i64 a0,.string (⟨#[]⟩ : ByteArray),.slice none 0 0,.slice none 0 0]) ?_ 4 _ rfl;(with_reducible repeat (first|apply blk_drewN|apply blk_drew|apply blk_alloc));refine blk_put (cs:=#[.int .i64 2,.bool false,.int .i64 a0,.string (⟨#[]⟩ : ByteArray),.slice none 0 0,.slice none 0 0]) ?_ 3 _ rfl;(with_reducible repeat (first|apply blk_drewN|apply blk_drew|apply blk_alloc));refine blk_put (cs:=#[.int .i64 2,.bool false,.int .i64 0,.string (⟨#[]⟩ : ByteArray),.slice none 0 0,.slice none 0 0]) ?_ 2 _ rfl;(with_reducible repeat (first|apply blk_drewN|apply blk_drew|apply blk_alloc));refine blk_put (cs:=#[.int .i64 2,.bool false,.int .i64 0,.string (⟨#[]⟩ : ByteArray),.slice none 0 0,.slice none 0 0]) ?_ 1 _ rfl;(with_reducible repeat (first|apply blk_drewN|apply blk_drew|apply blk_alloc));refine blk_put (cs:=#[.int .i64 0,.bool false,.int .i64 0,.string (⟨#[]⟩ : ByteArray),.slice none 0 0,.slice none 0 0]) ?_ 0 _ rfl;(with_reducible repeat (first|apply blk_drewN|apply blk_drew|apply blk_alloc));exact BK104.out) Tryd.underlying29 rfl (by kernel_rfl)) rfl ?_
 exact ⟨_,_,by first|rfl|(simp [errW_none,errW_some] <;> rfl)|(simp [*,errW_none,errW_some] <;> rfl),by first|exact Kd.R_nil _ _ _ _ _|exact Kd.N_nil _ _ _ _ _|exact Kd.V_nil _ _ _ _ _|exact Kd.Q_nil _ _ _ _ _|exact Kd.S_nil _ _ _ _ _,by first|exact Kd.R_nil _ _ _ _ _|exact Kd.N_nil _ _ _ _ _|exact Kd.V_nil _ _ _ _ _|exact Kd.Q_nil _ _ _ _ _|exact Kd.S_nil _ _ _ _ _,by repeat (first|(with_reducible first|exact HB.out|apply below_alloc|apply pw_below_drewN|apply below_drew1|refine below_set ?_ GE104.out)|exact HB.out)⟩

end Go.Proofs.YtnkkbiabloodaaaDoor.GVa
