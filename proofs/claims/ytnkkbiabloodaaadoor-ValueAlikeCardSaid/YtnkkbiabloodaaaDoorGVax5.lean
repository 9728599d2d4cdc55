/- Written by this session's own program (wip/gen.py) out of the translation: plain Lean functions of the Go functions, and proofs that the calls come to their answers. No conditions beside those in the statements. -/
import Derived.Test.YtnkkbiabloodaaaDoorGVax0
import Derived.Test.YtnkkbiabloodaaaDoorGVax3
import Derived.Test.YtnkkbiabloodaaaDoorGVax4
import Derived.Test.YtnkkbiabloodaaaDoorGVaKeys
import Derived.Test.YtnkkbiabloodaaaDoorGW
namespace Go.Proofs.YtnkkbiabloodaaaDoor.GVa
open Go.RowKit Go.Proofs.YtnkkbiabloodaaaDoorW.PrintWords Go.Proofs.YtnkkbiabloodaaaDoorW.PrintLast Go.Proofs.YtnkkbiabloodaaaDoorW.PrintMore
attribute [local go_sem] max2_int min2_int max_two min_two max_three min_three max_four min_four   -- for this text's walks alone
set_option linter.unusedVariables false
set_option linter.unusedSimpArgs false

/-! ### value_Value_wrong: function 34 -/
mutual
def value_Value_wrong.j1 : Nat → Int → Int → Bool → Int → ByteArray → List (S29) → List (S48) → Option (Int)
 | 0,_,_,_,_,_,_,_=>none
 | k + 1,x3,x128000,x128001,x128002,x128003,x128004,x128005=>if x3 = 0 then ((value_Value_parts.f k x128000 x128001 x128002 x128003 x128004 x128005).bind fun t130=>(value_Value_wrong.l0 k t130 (t130.length : Int) 0)) else (some x3)
def value_Value_wrong.l0 : Nat → List (S29) → Int → Int → Option (Int)
 | 0,_,_,_=>none
 | k + 1,x28,x29,x30=>if x30 < x29 then (if 0 ≤ x30 then (if x30 < (x28.length : Int) then ((value_Value_wrong.f k ((rd_T29 x28 x30).f0) ((rd_T29 x28 x30).f1) ((rd_T29 x28 x30).f2) ((rd_T29 x28 x30).f3) ((rd_T29 x28 x30).f4) ((rd_T29 x28 x30).f5)).bind fun t135=>(if t135 = 0 then (value_Value_wrong.l0 k x28 x29 (wrap64 (x30 + 1))) else (some t135))) else (none)) else (none)) else (some 0)
def value_Value_wrong.j0 : Nat → Int → Int → Bool → Int → Bool → Int → ByteArray → List (S29) → List (S48) → Option (Int)
 | 0,_,_,_,_,_,_,_,_,_=>none
 | k + 1,x3,x8,x9,x128000,x128001,x128002,x128003,x128004,x128005=>if x9 = true then (value_Value_wrong.j1 k x3 x128000 x128001 x128002 x128003 x128004 x128005) else (if x8 = 3 then ((value_text.f x128003).bind fun t128=>(value_Value_wrong.j1 k t128 x128000 x128001 x128002 x128003 x128004 x128005)) else (if x8 = 5 then ((value_keys.f x128005).bind fun t129=>(value_Value_wrong.j1 k t129 x128000 x128001 x128002 x128003 x128004 x128005)) else (value_Value_wrong.j1 k 15 x128000 x128001 x128002 x128003 x128004 x128005)))
def value_Value_wrong.f : Nat → Int → Bool → Int → ByteArray → List (S29) → List (S48) → Option (Int)
 | 0,_,_,_,_,_,_=>none
 | k + 1,a0_0,a0_1,a0_2,a0_3,l0_4,l0_5=>if a0_0 = 0 then (value_Value_wrong.j0 k 0 a0_0 (a0_0 == 0) a0_0 a0_1 a0_2 a0_3 l0_4 l0_5) else (if a0_0 = 1 then (value_Value_wrong.j0 k 0 a0_0 (a0_0 == 1) a0_0 a0_1 a0_2 a0_3 l0_4 l0_5) else (if a0_0 = 2 then (value_Value_wrong.j0 k 0 a0_0 (a0_0 == 2) a0_0 a0_1 a0_2 a0_3 l0_4 l0_5) else (value_Value_wrong.j0 k 0 a0_0 (a0_0 == 4) a0_0 a0_1 a0_2 a0_3 l0_4 l0_5)))
end
theorem value_Value_wrong.mono_l : ∀ k,(∀ y0 y1 y2 y3 y4 y5,LeO (value_Value_wrong.f k y0 y1 y2 y3 y4 y5) (value_Value_wrong.f (k + 1) y0 y1 y2 y3 y4 y5)) ∧ (∀ y0 y1 y2 y3 y4 y5 y6,LeO (value_Value_wrong.j1 k y0 y1 y2 y3 y4 y5 y6) (value_Value_wrong.j1 (k + 1) y0 y1 y2 y3 y4 y5 y6)) ∧ (∀ y0 y1 y2,LeO (value_Value_wrong.l0 k y0 y1 y2) (value_Value_wrong.l0 (k + 1) y0 y1 y2)) ∧ (∀ y0 y1 y2 y3 y4 y5 y6 y7 y8,LeO (value_Value_wrong.j0 k y0 y1 y2 y3 y4 y5 y6 y7 y8) (value_Value_wrong.j0 (k + 1) y0 y1 y2 y3 y4 y5 y6 y7 y8))
 | 0=>⟨fun _ _ _ _ _ _ r h=>by simp [value_Value_wrong.f] at h,fun _ _ _ _ _ _ _ r h=>by simp [value_Value_wrong.j1] at h,fun _ _ _ r h=>by simp [value_Value_wrong.l0] at h,fun _ _ _ _ _ _ _ _ _ r h=>by simp [value_Value_wrong.j0] at h⟩
 | k + 1=>by
  obtain ⟨ih0,ih1,ih2,ih3⟩:=value_Value_wrong.mono_l k
  refine ⟨?_,?_,?_,?_⟩
  ·intro y0 y1 y2 y3 y4 y5
   unfold value_Value_wrong.f
   repeat' first
   | (with_reducible exact ih0 _ _ _ _ _ _)
   | (with_reducible exact ih1 _ _ _ _ _ _ _)
   | (with_reducible exact ih2 _ _ _)
   | (with_reducible exact ih3 _ _ _ _ _ _ _ _ _)
   | (with_reducible exact value_Value_parts.mono _ _ _ _ _ _ _)
   | (with_reducible exact LeO.refl _)
   | (with_reducible exact LeO.none _)
   | (with_reducible refine LeO.ite ?_ ?_)
   | (with_reducible refine LeO.bind ?_ (fun _=>?_))
   | exact ih0 _ _ _ _ _ _
   | exact ih1 _ _ _ _ _ _ _
   | exact ih2 _ _ _
   | exact ih3 _ _ _ _ _ _ _ _ _
   | exact value_Value_parts.mono _ _ _ _ _ _ _
   | exact LeO.none _
   | refine LeO.ite ?_ ?_
   | refine LeO.bind ?_ (fun _=>?_)
  ·intro y0 y1 y2 y3 y4 y5 y6
   unfold value_Value_wrong.j1
   repeat' first
   | (with_reducible exact ih0 _ _ _ _ _ _)
   | (with_reducible exact ih1 _ _ _ _ _ _ _)
   | (with_reducible exact ih2 _ _ _)
   | (with_reducible exact ih3 _ _ _ _ _ _ _ _ _)
   | (with_reducible exact value_Value_parts.mono _ _ _ _ _ _ _)
   | (with_reducible exact LeO.refl _)
   | (with_reducible exact LeO.none _)
   | (with_reducible refine LeO.ite ?_ ?_)
   | (with_reducible refine LeO.bind ?_ (fun _=>?_))
   | exact ih0 _ _ _ _ _ _
   | exact ih1 _ _ _ _ _ _ _
   | exact ih2 _ _ _
   | exact ih3 _ _ _ _ _ _ _ _ _
   | exact value_Value_parts.mono _ _ _ _ _ _ _
   | exact LeO.none _
   | refine LeO.ite ?_ ?_
   | refine LeO.bind ?_ (fun _=>?_)
  ·intro y0 y1 y2
   unfold value_Value_wrong.l0
   repeat' first
   | (with_reducible exact ih0 _ _ _ _ _ _)
   | (with_reducible exact ih1 _ _ _ _ _ _ _)
   | (with_reducible exact ih2 _ _ _)
   | (with_reducible exact ih3 _ _ _ _ _ _ _ _ _)
   | (with_reducible exact value_Value_parts.mono _ _ _ _ _ _ _)
   | (with_reducible exact LeO.refl _)
   | (with_reducible exact LeO.none _)
   | (with_reducible refine LeO.ite ?_ ?_)
   | (with_reducible refine LeO.bind ?_ (fun _=>?_))
   | exact ih0 _ _ _ _ _ _
   | exact ih1 _ _ _ _ _ _ _
   | exact ih2 _ _ _
   | exact ih3 _ _ _ _ _ _ _ _ _
   | exact value_Value_parts.mono _ _ _ _ _ _ _
   | exact LeO.none _
   | refine LeO.ite ?_ ?_
   | refine LeO.bind ?_ (fun _=>?_)
  ·intro y0 y1 y2 y3 y4 y5 y6 y7 y8
   unfold value_Value_wrong.j0
   repeat' first
   | (with_reducible exact ih0 _ _ _ _ _ _)
   | (with_reducible exact ih1 _ _ _ _ _ _ _)
   | (with_reducible exact ih2 _ _ _)
   | (with_reducible exact ih3 _ _ _ _ _ _ _ _ _)
   | (with_reducible exact value_Value_parts.mono _ _ _ _ _ _ _)
   | (with_reducible exact LeO.refl _)
   | (with_reducible exact LeO.none _)
   | (with_reducible refine LeO.ite ?_ ?_)
   | (with_reducible refine LeO.bind ?_ (fun _=>?_))
   | exact ih0 _ _ _ _ _ _
   | exact ih1 _ _ _ _ _ _ _
   | exact ih2 _ _ _
   | exact ih3 _ _ _ _ _ _ _ _ _
   | exact value_Value_parts.mono _ _ _ _ _ _ _
   | exact LeO.none _
   | refine LeO.ite ?_ ?_
   | refine LeO.bind ?_ (fun _=>?_)
theorem value_Value_wrong.mono : ∀ a0 a1 a2 a3 a4 a5 k,LeO (value_Value_wrong.f k a0 a1 a2 a3 a4 a5) (value_Value_wrong.f (k + 1) a0 a1 a2 a3 a4 a5):=by
 intro a0 a1 a2 a3 a4 a5 k
 obtain ⟨ih0,ih1,ih2,ih3⟩:=value_Value_wrong.mono_l k
 exact ih0 a0 a1 a2 a3 a4 a5
set_option maxHeartbeats 8000000 in
set_option maxRecDepth 100000 in
theorem value_Value_wrong.calls (k : Nat) : ∀ (a0_0 : Int) (a0_1 : Bool) (a0_2 : Int) (a0_3 : ByteArray) (A0_4 : Option Addr) (c0_4 : Nat) (l0_4 : List (S29)) (A0_5 : Option Addr) (c0_5 : Nat) (l0_5 : List (S48)) (r : Int) (w : World) (hr0_4 : Kd.C k29 w A0_4 l0_4.length l0_4) (hc0_4 : l0_4.length ≤ c0_4) (hr0_5 : Kd.C k48 w A0_5 l0_5.length l0_5) (hc0_5 : l0_5.length ≤ c0_5) (h : value_Value_wrong.f k a0_0 a0_1 a0_2 a0_3 l0_4 l0_5 = some r) (hG : GW.GW w),
  Calls Tryd.prog 34 #[.agg #[.int .i64 a0_0,.bool a0_1,.int .i64 a0_2,.string a0_3,.slice A0_4 l0_4.length c0_4,.slice A0_5 l0_5.length c0_5]] w fun e w'=>e = .returned (.int .i64 r) ∧ Below w.heap.size w w':=by
 induction k using Nat.strongRecOn with
 | _ k ih =>
 intro a0_0 a0_1 a0_2 a0_3 A0_4 c0_4 l0_4 A0_5 c0_5 l0_5 r w hr0_4 hc0_4 hr0_5 hc0_5 h hG
 cases k with
 | zero=>exact absurd h (by simp [value_Value_wrong.f])
 | succ k =>
 simp only [value_Value_wrong.f] at h
 have hu29:=Tryd.underlying29
 have HR0_4:=Aside0.mk hr0_4
 have HC0_4:=Aside0.mk hc0_4
 clear hr0_4 hc0_4
 have HR0_5:=Aside0.mk hr0_5
 have HC0_5:=Aside0.mk hc0_5
 clear hr0_5 hc0_5
 have HB:=Aside0.mk (Below.refl w.heap.size w)
 have H : (if a0_0 = 0 then (value_Value_wrong.j0 k 0 a0_0 (a0_0 == 0) a0_0 a0_1 a0_2 a0_3 l0_4 l0_5) else (if a0_0 = 1 then (value_Value_wrong.j0 k 0 a0_0 (a0_0 == 1) a0_0 a0_1 a0_2 a0_3 l0_4 l0_5) else (if a0_0 = 2 then (value_Value_wrong.j0 k 0 a0_0 (a0_0 == 2) a0_0 a0_1 a0_2 a0_3 l0_4 l0_5) else (value_Value_wrong.j0 k 0 a0_0 (a0_0 == 4) a0_0 a0_1 a0_2 a0_3 l0_4 l0_5)))) = some r:=h
 clear h
 have HC2:=Aside0.mk H
 clear H
 go_enter Tryd.func34,Tryd.ntmps34
 go_upto_block 0 with (first|((with_reducible refine gate_dst (N:=1) rfl ?_);refine box_event ?hg (N:=1) ?hd (cs:=#[.int .i64 a0_0,.bool a0_1,.int .i64 a0_2,.string a0_3,.slice A0_4 l0_4.length c0_4,.slice A0_5 l0_5.length c0_5]) (t:=29) ?hr ?_;(case hd=>rfl);(case hg=>rfl);(case hr=>first|(go_simp;done)|(go_simp;rfl));intro gb127 hg w3 hbox hb;have n0_:=Aside0.mk (below_step (by repeat (first|(with_reducible first|exact HB.out|apply below_alloc|apply pw_below_drewN|apply below_drew1)|exact HB.out)) hb);have n1_:=Aside0.mk (hbox);have n2_:=Aside0.mk ((by rw [hg];exact (below_size (by repeat (first|(with_reducible first|exact HB.out|apply below_alloc|apply pw_below_drewN|apply below_drew1)|exact HB.out))) : w.heap.size ≤ gb127));have n3_:=Aside0.mk ((by rw [hg];exact (below_size (by repeat (first|(with_reducible first|exact HB.out|apply below_alloc|apply pw_below_drewN|apply below_drew1)|exact HB.out))) : w.heap.size ≤ gb127));clear HB;have HB:=n0_;have BK127:=n1_;have GW127:=n2_;have GE127:=n3_;clear n0_ n1_ n2_ n3_;clear hb hbox hg;have hcz4_0 : w3.cell? ⟨gb127,0,none⟩ = some (.int .i64 a0_0):=(blk_cell BK127.out 0).trans rfl;have hcz4_1 : w3.cell? ⟨gb127,1,none⟩ = some (.bool a0_1):=(blk_cell BK127.out 1).trans rfl;have hcz4_2 : w3.cell? ⟨gb127,2,none⟩ = some (.int .i64 a0_2):=(blk_cell BK127.out 2).trans rfl;have hcz4_3 : w3.cell? ⟨gb127,3,none⟩ = some (.string a0_3):=(blk_cell BK127.out 3).trans rfl;have hcz4_4 : w3.cell? ⟨gb127,4,none⟩ = some (.slice A0_4 l0_4.length c0_4):=(blk_cell BK127.out 4).trans rfl;have hcz4_5 : w3.cell? ⟨gb127,5,none⟩ = some (.slice A0_5 l0_5.length c0_5):=(blk_cell BK127.out 5).trans rfl;have hfz4_0:=blk_frozen BK127.out 0;have hfz4_1:=blk_frozen BK127.out 1;have hfz4_2:=blk_frozen BK127.out 2;have hfz4_3:=blk_frozen BK127.out 3;have hfz4_4:=blk_frozen BK127.out 4;have hfz4_5:=blk_frozen BK127.out 5))
 (try simp only [Act.put,List.setIfInBounds_toArray,List.set_cons_zero,List.set_cons_succ])
 go_cut [3] (fun v3 wc=>∃ (kq : Nat) (x3_1 : Int),v3 = .int .i64 x3_1 ∧ Aside0 (value_Value_wrong.j1 kq x3_1 a0_0 a0_1 a0_2 a0_3 l0_4 l0_5 = some r) ∧ Aside0 (kq ≤ k) ∧ Aside0 (wc.heap[gb127]? = some (.cells #[.int .i64 a0_0,.bool a0_1,.int .i64 a0_2,.string a0_3,(.slice A0_4 l0_4.length c0_4),(.slice A0_5 l0_5.length c0_5)] 29 (0,0))) ∧ Aside0 (Below w.heap.size w wc))
 case first =>
  have H:=HC2.out
  clear HC2
  have HC5:=Aside0.mk H
  clear H
  go_upto_if 9 with (fail)
  go_cut [9] (fun v9 wc=>∃ (kq : Nat) (x9_4 : Bool),v9 = .bool x9_4 ∧ Aside0 (value_Value_wrong.j0 kq 0 a0_0 x9_4 a0_0 a0_1 a0_2 a0_3 l0_4 l0_5 = some r) ∧ Aside0 (kq ≤ k) ∧ Aside0 (wc.heap[gb127]? = some (.cells #[.int .i64 a0_0,.bool a0_1,.int .i64 a0_2,.string a0_3,(.slice A0_4 l0_4.length c0_4),(.slice A0_5 l0_5.length c0_5)] 29 (0,0))) ∧ Aside0 (Below w.heap.size w wc))
  case first =>
   have H:=HC5.out
   clear HC5
   by_cases c6 : a0_0 = 0
   ·rw [if_pos c6] at H
    have c6b0 : (a0_0 == 0) = true:=beq_iff_eq.mpr c6
    have c6b1 : (a0_0 != 0) = false:=bne_eq_false_iff_eq.mpr c6
    clear c6
    (first|rw [c6b0]|(simp only [i64_w,i32_w];rw [c6b0])|skip)
    have H':=Aside0.mk H
    clear H
    go_wp2
    go_meet
    case rel=>exact ⟨_,((a0_0 == 0)),(by first|rfl|(simp;done)|(simp [*];done)),H',⟨by first|omega|exact Nat.le_refl _⟩,⟨by (with_reducible repeat (first|apply blk_drewN|apply blk_drew|apply blk_alloc));exact BK127.out⟩,⟨by repeat (first|(with_reducible first|exact HB.out|apply below_alloc|apply pw_below_drewN|apply below_drew1|refine below_set ?_ GE127.out)|exact HB.out)⟩⟩
   ·rw [if_neg c6] at H
    have c6b0 : (a0_0 == 0) = false:=beq_eq_false_iff_ne.mpr c6
    have c6b1 : (a0_0 != 0) = true:=bne_iff_ne.mpr c6
    (first|rw [c6b0]|(simp only [i64_w,i32_w];rw [c6b0])|skip)
    by_cases c7 : a0_0 = 1
    ·rw [if_pos c7] at H
     have c7b0 : (a0_0 == 1) = true:=beq_iff_eq.mpr c7
     have c7b1 : (a0_0 != 1) = false:=bne_eq_false_iff_eq.mpr c7
     clear c7
     have H':=Aside0.mk H
     clear H
     go_wp2
     go_meet
     case rel=>exact ⟨_,((a0_0 == 1)),(by first|rfl|(simp;done)|(simp [*];done)),H',⟨by first|omega|exact Nat.le_refl _⟩,⟨by (with_reducible repeat (first|apply blk_drewN|apply blk_drew|apply blk_alloc));exact BK127.out⟩,⟨by repeat (first|(with_reducible first|exact HB.out|apply below_alloc|apply pw_below_drewN|apply below_drew1|refine below_set ?_ GE127.out)|exact HB.out)⟩⟩
    ·rw [if_neg c7] at H
     have c7b0 : (a0_0 == 1) = false:=beq_eq_false_iff_ne.mpr c7
     have c7b1 : (a0_0 != 1) = true:=bne_iff_ne.mpr c7
     by_cases c8 : a0_0 = 2
     ·rw [if_pos c8] at H
      have c8b0 : (a0_0 == 2) = true:=beq_iff_eq.mpr c8
      have c8b1 : (a0_0 != 2) = false:=bne_eq_false_iff_eq.mpr c8
      clear c8
      have H':=Aside0.mk H
      clear H
      go_wp2
      go_meet
      case rel=>exact ⟨_,((a0_0 == 2)),(by first|rfl|(simp;done)|(simp [*];done)),H',⟨by first|omega|exact Nat.le_refl _⟩,⟨by (with_reducible repeat (first|apply blk_drewN|apply blk_drew|apply blk_alloc));exact BK127.out⟩,⟨by repeat (first|(with_reducible first|exact HB.out|apply below_alloc|apply pw_below_drewN|apply below_drew1|refine below_set ?_ GE127.out)|exact HB.out)⟩⟩
     ·rw [if_neg c8] at H
      have c8b0 : (a0_0 == 2) = false:=beq_eq_false_iff_ne.mpr c8
      have c8b1 : (a0_0 != 2) = true:=bne_iff_ne.mpr c8
      have H':=Aside0.mk H
      clear H
      go_wp2
      go_meet
      case rel=>exact ⟨_,((a0_0 == 4)),(by first|rfl|(simp;done)|(simp [*];done)),H',⟨by first|omega|exact Nat.le_refl _⟩,⟨by (with_reducible repeat (first|apply blk_drewN|apply blk_drew|apply blk_alloc));exact BK127.out⟩,⟨by repeat (first|(with_reducible first|exact HB.out|apply below_alloc|apply pw_below_drewN|apply below_drew1|refine below_set ?_ GE127.out)|exact HB.out)⟩⟩
  case rest =>
   clear HC5
   try clear p2
   try clear c3
   try clear c6
   try clear c6b0
   try clear c6b1
   try clear c7
   try clear c7b0
   try clear c7b1
   try clear c8
   try clear c8b0
   try clear c8b1
   try clear hcz4_0
   try clear hcz4_1
   try clear hcz4_2
   try clear hcz4_3
   try clear hcz4_4
   try clear hcz4_5
   try clear hfz4_0
   try clear hfz4_1
   try clear hfz4_2
   try clear hfz4_3
   try clear hfz4_4
   try clear hfz4_5
   obtain ⟨kq,x9_4,rfl,HA,HJ4,BK127,HB⟩:=hcut
   cases kq with
   | zero=>exact absurd HA.out (by simp [value_Value_wrong.j0])
   | succ kj4 =>
    have H:=HA.out
    clear HA
    simp only [value_Value_wrong.j0] at H
    by_cases c9 : x9_4 = true
    ·subst c9
     have H1 : (value_Value_wrong.j1 kj4 0 a0_0 a0_1 a0_2 a0_3 l0_4 l0_5) = some r:=by rw [if_pos rfl] at H;exact H
     clear H
     have H:=H1
     clear H1
     have H':=Aside0.mk H
     clear H
     go_wp2
     go_meet
     case rel=>exact ⟨_,(0),(by first|rfl|(simp;done)|(simp [*];done)),H',⟨by have:=HJ4.out;first|omega|exact Nat.le_refl _⟩,⟨by (with_reducible repeat (first|apply blk_drewN|apply blk_drew|apply blk_alloc));exact BK127.out⟩,⟨by repeat (first|(with_reducible first|exact HB.out|apply below_alloc|apply pw_below_drewN|apply below_drew1|refine below_set ?_ GE127.out)|exact HB.out)⟩⟩
    ·replace c9:=Bool.eq_false_iff.mpr c9
     subst c9
     have H1 : (if a0_0 = 3 then ((value_text.f a0_3).bind fun t128=>(value_Value_wrong.j1 kj4 t128 a0_0 a0_1 a0_2 a0_3 l0_4 l0_5)) else (if a0_0 = 5 then ((value_keys.f l0_5).bind fun t129=>(value_Value_wrong.j1 kj4 t129 a0_0 a0_1 a0_2 a0_3 l0_4 l0_5)) else (value_Value_wrong.j1 kj4 15 a0_0 a0_1 a0_2 a0_3 l0_4 l0_5))) = some r:=by rw [if_neg (show ¬ (false = true) by decide)] at H;exact H
     clear H
     have H:=H1
     clear H1
     by_cases c10 : a0_0 = 3
     ·rw [if_pos c10] at H
      have c10b0 : (a0_0 == 3) = true:=beq_iff_eq.mpr c10
      have c10b1 : (a0_0 != 3) = false:=bne_eq_false_iff_eq.mpr c10
      clear c10
      replace H:=Option.bind_eq_some_iff.mp H
      obtain ⟨t128,A110,H⟩:=H
      replace H : (value_Value_wrong.j1 kj4 t128 a0_0 a0_1 a0_2 a0_3 l0_4 l0_5) = some r:=H
      have A11:=Aside0.mk A110
      clear A110
      have H':=Aside0.mk H
      clear H
      have hcz12_0 : wc.cell? ⟨gb127,0,none⟩ = some (.int .i64 a0_0):=(blk_cell BK127.out 0).trans rfl
      have hcz12_1 : wc.cell? ⟨gb127,1,none⟩ = some (.bool a0_1):=(blk_cell BK127.out 1).trans rfl
      have hcz12_2 : wc.cell? ⟨gb127,2,none⟩ = some (.int .i64 a0_2):=(blk_cell BK127.out 2).trans rfl
      have hcz12_3 : wc.cell? ⟨gb127,3,none⟩ = some (.string a0_3):=(blk_cell BK127.out 3).trans rfl
      have hcz12_4 : wc.cell? ⟨gb127,4,none⟩ = some (.slice A0_4 l0_4.length c0_4):=(blk_cell BK127.out 4).trans rfl
      have hcz12_5 : wc.cell? ⟨gb127,5,none⟩ = some (.slice A0_5 l0_5.length c0_5):=(blk_cell BK127.out 5).trans rfl
      have hfz12_0:=blk_frozen BK127.out 0
      have hfz12_1:=blk_frozen BK127.out 1
      have hfz12_2:=blk_frozen BK127.out 2
      have hfz12_3:=blk_frozen BK127.out 3
      have hfz12_4:=blk_frozen BK127.out 4
      have hfz12_5:=blk_frozen BK127.out 5
      go_wp2_with (first|((with_reducible refine gate_callee (f:=47) rfl ?_);refine goesL_ (some 18) rfl rfl Tryd.func47 (by kernel_rfl) rfl #[.string a0_3] rfl (by (try simp only [List.map_toArray,List.map_cons,List.map_nil]);first|done|rfl|(simp only [List.length_drop,List.length_take];rfl)|(simp (disch:=first|omega|(simp at *;omega)) only [u64_id,i64_id,u8_id];rfl)) ?_;(with_reducible refine (value_text.calls a0_3 t128 _ A11.out (by first|assumption|exact GW.below hG (by first|exact HB.out|assumption|(repeat (first|(with_reducible first|exact HB.out|apply below_alloc|apply pw_below_drewN|apply below_drew1|refine below_set ?_ GE127.out)|exact HB.out)))|exact GW.drawn hG (by first|assumption|(repeat (first|exact Drawn0.refl _|assumption|apply Drawn0.step))))).mono ?_);rintro e w13 ⟨rfl,hb⟩;refine ⟨_,rfl,?_⟩;have n0_:=Aside0.mk (blk_below (g:=gb127) (o:=.cells #[.int .i64 a0_0,.bool a0_1,.int .i64 a0_2,.string a0_3,.slice A0_4 l0_4.length c0_4,.slice A0_5 l0_5.length c0_5] 29 (0,0)) (by (with_reducible repeat (first|apply blk_drewN|apply blk_drew|apply blk_alloc));exact BK127.out) hb);have n1_:=Aside0.mk (below_step (by repeat (first|(with_reducible first|exact HB.out|apply below_alloc|apply pw_below_drewN|apply below_drew1|refine below_set ?_ GE127.out)|exact HB.out)) hb);clear BK127;clear HB;have BK127:=n0_;have HB:=n1_;clear n0_ n1_;(try clear hb);(try clear hb2);(try clear hk);(try clear hi)))
      go_meet
      case rel=>exact ⟨_,(t128),(by first|rfl|(simp;done)|(simp [*];done)),H',⟨by have:=HJ4.out;first|omega|exact Nat.le_refl _⟩,⟨by (with_reducible repeat (first|apply blk_drewN|apply blk_drew|apply blk_alloc));exact BK127.out⟩,⟨by repeat (first|(with_reducible first|exact HB.out|apply below_alloc|apply pw_below_drewN|apply below_drew1|refine below_set ?_ GE127.out)|exact HB.out)⟩⟩
     ·rw [if_neg c10] at H
      have c10b0 : (a0_0 == 3) = false:=beq_eq_false_iff_ne.mpr c10
      have c10b1 : (a0_0 != 3) = true:=bne_iff_ne.mpr c10
      by_cases c14 : a0_0 = 5
      ·rw [if_pos c14] at H
       have c14b0 : (a0_0 == 5) = true:=beq_iff_eq.mpr c14
       have c14b1 : (a0_0 != 5) = false:=bne_eq_false_iff_eq.mpr c14
       clear c14
       replace H:=Option.bind_eq_some_iff.mp H
       obtain ⟨t129,A150,H⟩:=H
       replace H : (value_Value_wrong.j1 kj4 t129 a0_0 a0_1 a0_2 a0_3 l0_4 l0_5) = some r:=H
       have A15:=Aside0.mk A150
       clear A150
       have H':=Aside0.mk H
       clear H
       have hcz16_0 : wc.cell? ⟨gb127,0,none⟩ = some (.int .i64 a0_0):=(blk_cell BK127.out 0).trans rfl
       have hcz16_1 : wc.cell? ⟨gb127,1,none⟩ = some (.bool a0_1):=(blk_cell BK127.out 1).trans rfl
       have hcz16_2 : wc.cell? ⟨gb127,2,none⟩ = some (.int .i64 a0_2):=(blk_cell BK127.out 2).trans rfl
       have hcz16_3 : wc.cell? ⟨gb127,3,none⟩ = some (.string a0_3):=(blk_cell BK127.out 3).trans rfl
       have hcz16_4 : wc.cell? ⟨gb127,4,none⟩ = some (.slice A0_4 l0_4.length c0_4):=(blk_cell BK127.out 4).trans rfl
       have hcz16_5 : wc.cell? ⟨gb127,5,none⟩ = some (.slice A0_5 l0_5.length c0_5):=(blk_cell BK127.out 5).trans rfl
       have hfz16_0:=blk_frozen BK127.out 0
       have hfz16_1:=blk_frozen BK127.out 1
       have hfz16_2:=blk_frozen BK127.out 2
       have hfz16_3:=blk_frozen BK127.out 3
       have hfz16_4:=blk_frozen BK127.out 4
       have hfz16_5:=blk_frozen BK127.out 5
       go_wp2_with (first|((with_reducible refine gate_callee (f:=48) rfl ?_);refine goesL_ (some 23) rfl rfl Tryd.func48 (by kernel_rfl) rfl #[.slice A0_5 l0_5.length c0_5] rfl (by (try simp only [List.map_toArray,List.map_cons,List.map_nil]);first|done|rfl|(simp only [List.length_drop,List.length_take];rfl)|(simp (disch:=first|omega|(simp at *;omega)) only [u64_id,i64_id,u8_id];rfl)) ?_;(with_reducible refine (value_keys.calls _ _ l0_5 t129 _ ?side1 ?side2 A15.out (by first|assumption|exact GW.below hG (by first|exact HB.out|assumption|(repeat (first|(with_reducible first|exact HB.out|apply below_alloc|apply pw_below_drewN|apply below_drew1|refine below_set ?_ GE127.out)|exact HB.out)))|exact GW.drawn hG (by first|assumption|(repeat (first|exact Drawn0.refl _|assumption|apply Drawn0.step))))).mono ?_);(case side1=>repeat (first|exact (Kd.C_below HR0_5.out HB.out)|(with_reducible refine Kd.C_alloc ?_ _)|(with_reducible refine Kd.C_drewN ?_ _)|(with_reducible refine Kd.C_drew ?_)));(case side2=>exact HC0_5.out);rintro e w17 ⟨rfl,hb⟩;refine ⟨_,rfl,?_⟩;have n0_:=Aside0.mk (blk_below (g:=gb127) (o:=.cells #[.int .i64 a0_0,.bool a0_1,.int .i64 a0_2,.string a0_3,.slice A0_4 l0_4.length c0_4,.slice A0_5 l0_5.length c0_5] 29 (0,0)) (by (with_reducible repeat (first|apply blk_drewN|apply blk_drew|apply blk_alloc));exact BK127.out) hb);have n1_:=Aside0.mk (below_step (by repeat (first|(with_reducible first|exact HB.out|apply below_alloc|apply pw_below_drewN|apply below_drew1|refine below_set ?_ GE127.out)|exact HB.out)) hb);clear BK127;clear HB;have BK127:=n0_;have HB:=n1_;clear n0_ n1_;(try clear hb);(try clear hb2);(try clear hk);(try clear hi)))
       go_meet
       case rel=>exact ⟨_,(t129),(by first|rfl|(simp;done)|(simp [*];done)),H',⟨by have:=HJ4.out;first|omega|exact Nat.le_refl _⟩,⟨by (with_reducible repeat (first|apply blk_drewN|apply blk_drew|apply blk_alloc));exact BK127.out⟩,⟨by repeat (first|(with_reducible first|exact HB.out|apply below_alloc|apply pw_below_drewN|apply below_drew1|refine below_set ?_ GE127.out)|exact HB.out)⟩⟩
      ·rw [if_neg c14] at H
       have c14b0 : (a0_0 == 5) = false:=beq_eq_false_iff_ne.mpr c14
       have c14b1 : (a0_0 != 5) = true:=bne_iff_ne.mpr c14
       have H':=Aside0.mk H
       clear H
       go_wp2
       go_meet
       case rel=>exact ⟨_,(15),(by first|rfl|(simp;done)|(simp [*];done)),H',⟨by have:=HJ4.out;first|omega|exact Nat.le_refl _⟩,⟨by (with_reducible repeat (first|apply blk_drewN|apply blk_drew|apply blk_alloc));exact BK127.out⟩,⟨by repeat (first|(with_reducible first|exact HB.out|apply below_alloc|apply pw_below_drewN|apply below_drew1|refine below_set ?_ GE127.out)|exact HB.out)⟩⟩
 case rest =>
  clear HC2
  try clear c1
  try clear p2
  try clear c3
  try clear c4
  try clear c6
  try clear c6b0
  try clear c6b1
  try clear c7
  try clear c7b0
  try clear c7b1
  try clear c8
  try clear c8b0
  try clear c8b1
  try clear c9
  try clear c10
  try clear c10b0
  try clear c10b1
  try clear c14
  try clear c14b0
  try clear c14b1
  try clear hcz12_0
  try clear hcz12_1
  try clear hcz12_2
  try clear hcz12_3
  try clear hcz12_4
  try clear hcz12_5
  try clear hcz16_0
  try clear hcz16_1
  try clear hcz16_2
  try clear hcz16_3
  try clear hcz16_4
  try clear hcz16_5
  try clear hcz4_0
  try clear hcz4_1
  try clear hcz4_2
  try clear hcz4_3
  try clear hcz4_4
  try clear hcz4_5
  try clear hfz12_0
  try clear hfz12_1
  try clear hfz12_2
  try clear hfz12_3
  try clear hfz12_4
  try clear hfz12_5
  try clear hfz16_0
  try clear hfz16_1
  try clear hfz16_2
  try clear hfz16_3
  try clear hfz16_4
  try clear hfz16_5
  try clear hfz4_0
  try clear hfz4_1
  try clear hfz4_2
  try clear hfz4_3
  try clear hfz4_4
  try clear hfz4_5
  try clear p2
  obtain ⟨kq,x3_1,rfl,HA,HJ1,BK127,HB⟩:=hcut
  cases kq with
  | zero=>exact absurd HA.out (by simp [value_Value_wrong.j1])
  | succ kj1 =>
   have H:=HA.out
   clear HA
   simp only [value_Value_wrong.j1] at H
   by_cases c18 : x3_1 = 0
   ·rw [if_pos c18] at H
    have c18b0 : (x3_1 == 0) = true:=beq_iff_eq.mpr c18
    have c18b1 : (x3_1 != 0) = false:=bne_eq_false_iff_eq.mpr c18
    clear c18
    replace H:=Option.bind_eq_some_iff.mp H
    obtain ⟨t130,A190,H⟩:=H
    replace H : (value_Value_wrong.l0 kj1 t130 (t130.length : Int) 0) = some r:=H
    have A19:=Aside0.mk A190
    clear A190
    have H':=Aside0.mk H
    clear H
    have hcz20_0 : wc.cell? ⟨gb127,0,none⟩ = some (.int .i64 a0_0):=(blk_cell BK127.out 0).trans rfl
    have hcz20_1 : wc.cell? ⟨gb127,1,none⟩ = some (.bool a0_1):=(blk_cell BK127.out 1).trans rfl
    have hcz20_2 : wc.cell? ⟨gb127,2,none⟩ = some (.int .i64 a0_2):=(blk_cell BK127.out 2).trans rfl
    have hcz20_3 : wc.cell? ⟨gb127,3,none⟩ = some (.string a0_3):=(blk_cell BK127.out 3).trans rfl
    have hcz20_4 : wc.cell? ⟨gb127,4,none⟩ = some (.slice A0_4 l0_4.length c0_4):=(blk_cell BK127.out 4).trans rfl
    have hcz20_5 : wc.cell? ⟨gb127,5,none⟩ = some (.slice A0_5 l0_5.length c0_5):=(blk_cell BK127.out 5).trans rfl
    have hfz20_0:=blk_frozen BK127.out 0
    have hfz20_1:=blk_frozen BK127.out 1
    have hfz20_2:=blk_frozen BK127.out 2
    have hfz20_3:=blk_frozen BK127.out 3
    have hfz20_4:=blk_frozen BK127.out 4
    have hfz20_5:=blk_frozen BK127.out 5
    go_wp2_with (first|((with_reducible refine gate_callee (f:=36) rfl ?_);refine goesL_ (some 28) rfl rfl Tryd.func36 (by kernel_rfl) rfl #[.agg #[.int .i64 a0_0,.bool a0_1,.int .i64 a0_2,.string a0_3,.slice A0_4 l0_4.length c0_4,.slice A0_5 l0_5.length c0_5]] rfl (by (try simp only [List.map_toArray,List.map_cons,List.map_nil]);first|done|rfl|(simp only [List.length_drop,List.length_take];rfl)|(simp (disch:=first|omega|(simp at *;omega)) only [u64_id,i64_id,u8_id];rfl)) ?_;(with_reducible refine (value_Value_parts.calls kj1 a0_0 a0_1 a0_2 a0_3 (fun k_=>k_ < w.heap.size) _ _ l0_4 (fun k_=>k_ < w.heap.size) _ _ l0_5 t130 _ ?side1 ?side2 A19.out).mono ?_);(case side1=>exact Kd.V_mk HC0_4.out (Kd.F_below (Kd.C_F k29_heap HR0_4.out) (by repeat (first|(with_reducible first|exact HB.out|apply below_alloc|apply pw_below_drewN|apply below_drew1|refine below_set ?_ GE127.out)|exact HB.out))));(case side2=>exact Kd.V_mk HC0_5.out (Kd.F_below (Kd.C_F k48_heap HR0_5.out) (by repeat (first|(with_reducible first|exact HB.out|apply below_alloc|apply pw_below_drewN|apply below_drew1|refine below_set ?_ GE127.out)|exact HB.out))));rintro e w21 ⟨v131,rfl,ho0,hb⟩;refine ⟨_,rfl,?_⟩;have n0_:=Aside0.mk (Kd.V_lower (Kd.V_mono (ok':=fun k_=>k_ ≠ gb127) ho0 (fun k_ hk_=>Or.elim hk_ (fun hs_=>Or.elim hs_ (fun hs_=>fun e_=>Nat.not_le.2 hs_ (by rw [e_];exact GW127.out)) (fun hs_=>fun e_=>Nat.not_le.2 hs_ (by rw [e_];exact GW127.out))) (fun hn_=>(Kd.freshB (g:=gb127) (o:=.cells #[.int .i64 a0_0,.bool a0_1,.int .i64 a0_2,.string a0_3,.slice A0_4 l0_4.length c0_4,.slice A0_5 l0_5.length c0_5] 29 (0,0)) (by (with_reducible repeat (first|apply blk_drewN|apply blk_drew|apply blk_alloc));exact BK127.out) k_ hn_)))) (below_size (by repeat (first|(with_reducible first|exact HB.out|apply below_alloc|apply pw_below_drewN|apply below_drew1|refine below_set ?_ GE127.out)|exact HB.out))));have n1_:=Aside0.mk (blk_below (g:=gb127) (o:=.cells #[.int .i64 a0_0,.bool a0_1,.int .i64 a0_2,.string a0_3,.slice A0_4 l0_4.length c0_4,.slice A0_5 l0_5.length c0_5] 29 (0,0)) (by (with_reducible repeat (first|apply blk_drewN|apply blk_drew|apply blk_alloc));exact BK127.out) hb);have n2_:=Aside0.mk (below_step (by repeat (first|(with_reducible first|exact HB.out|apply below_alloc|apply pw_below_drewN|apply below_drew1|refine below_set ?_ GE127.out)|exact HB.out)) hb);clear BK127;clear HB;have HO132:=n0_;have BK127:=n1_;have HB:=n2_;clear n0_ n1_ n2_;(try clear hb);(try clear hb2);(try clear hk);(try clear hi);(try clear ho0);obtain ⟨Ao22,co22,eo22⟩:=Kd.V_slice HO132.out;subst eo22))
    go_loopg [30] kj1 (fun kq v30 w'=>∃ (x30_2 : Int),v30 = .int .i64 x30_2 ∧ Aside0 (value_Value_wrong.l0 kq t130 (t130.length : Int) x30_2 = some r) ∧ Aside0 (kq ≤ kj1) ∧ Aside0 (Kd.V k29 29 w' w.heap.size (fun k_=>k_ ≠ gb127) (.slice Ao22 t130.length co22) t130) ∧ Aside0 (w'.heap[gb127]? = some (.cells #[.int .i64 a0_0,.bool a0_1,.int .i64 a0_2,.string a0_3,(.slice A0_4 l0_4.length c0_4),(.slice A0_5 l0_5.length c0_5)] 29 (0,0))) ∧ Aside0 (Below w.heap.size w w'))
    case atStart=>exact ⟨(0),(by first|rfl|(simp;done)|(simp [*];done)),H',⟨Nat.le_refl _⟩,⟨by (with_reducible repeat (first|apply Kd.V_alloc|apply Kd.V_drewN|apply Kd.V_drew));exact HO132.out⟩,⟨by (with_reducible repeat (first|apply blk_drewN|apply blk_drew|apply blk_alloc));exact BK127.out⟩,⟨by repeat (first|(with_reducible first|exact HB.out|apply below_alloc|apply pw_below_drewN|apply below_drew1|refine below_set ?_ GE127.out)|exact HB.out)⟩⟩
    case round =>
     clear H'
     try clear c1
     try clear p2
     try clear c3
     try clear c4
     try clear c6
     try clear c6b0
     try clear c6b1
     try clear c7
     try clear c7b0
     try clear c7b1
     try clear c8
     try clear c8b0
     try clear c8b1
     try clear c9
     try clear c10
     try clear c10b0
     try clear c10b1
     try clear c14
     try clear c14b0
     try clear c14b1
     try clear c18
     try clear c18b0
     try clear c18b1
     try clear hcz12_0
     try clear hcz12_1
     try clear hcz12_2
     try clear hcz12_3
     try clear hcz12_4
     try clear hcz12_5
     try clear hcz16_0
     try clear hcz16_1
     try clear hcz16_2
     try clear hcz16_3
     try clear hcz16_4
     try clear hcz16_5
     try clear hcz20_0
     try clear hcz20_1
     try clear hcz20_2
     try clear hcz20_3
     try clear hcz20_4
     try clear hcz20_5
     try clear hcz4_0
     try clear hcz4_1
     try clear hcz4_2
     try clear hcz4_3
     try clear hcz4_4
     try clear hcz4_5
     try clear hfz12_0
     try clear hfz12_1
     try clear hfz12_2
     try clear hfz12_3
     try clear hfz12_4
     try clear hfz12_5
     try clear hfz16_0
     try clear hfz16_1
     try clear hfz16_2
     try clear hfz16_3
     try clear hfz16_4
     try clear hfz16_5
     try clear hfz20_0
     try clear hfz20_1
     try clear hfz20_2
     try clear hfz20_3
     try clear hfz20_4
     try clear hfz20_5
     try clear hfz4_0
     try clear hfz4_1
     try clear hfz4_2
     try clear hfz4_3
     try clear hfz4_4
     try clear hfz4_5
     try clear p2
     obtain ⟨x30_2,rfl,HA,HK2,HO_28,BK127,HB⟩:=hrel
     cases gk with
     | zero=>exact absurd HA.out (by simp [value_Value_wrong.l0])
     | succ k2 =>
      have H:=HA.out
      clear HA
      simp only [value_Value_wrong.l0] at H
      by_cases c23 : x30_2 < (t130.length : Int)
      ·rw [if_pos c23] at H
       have c23b0 : decide (x30_2 < (t130.length : Int)) = true:=decide_eq_true c23
       clear c23
       by_cases c24 : 0 ≤ x30_2
       ·rw [if_pos c24] at H
        have c24b0 : decide (0 ≤ x30_2) = true:=decide_eq_true c24
        clear c24
        by_cases c25 : x30_2 < (t130.length : Int)
        ·rw [if_pos c25] at H
         have c25b0 : decide (x30_2 < (t130.length : Int)) = true:=decide_eq_true c25
         clear c25
         replace H:=Option.bind_eq_some_iff.mp H
         obtain ⟨t135,A260,H⟩:=H
         replace H : (if t135 = 0 then (value_Value_wrong.l0 k2 t130 (t130.length : Int) (wrap64 (x30_2 + 1))) else (some t135)) = some r:=H
         have A26:=Aside0.mk A260
         clear A260
         by_cases c27 : t135 = 0
         ·rw [if_pos c27] at H
          have c27b0 : (t135 == 0) = true:=beq_iff_eq.mpr c27
          have c27b1 : (t135 != 0) = false:=bne_eq_false_iff_eq.mpr c27
          clear c27
          have H':=Aside0.mk H
          clear H
          have p133 : 0 ≤ (x30_2 : Int):=of_decide_eq_true (by first|(with_reducible assumption)|assumption)
          have q133 : x30_2 < (t130.length : Int):=of_decide_eq_true (by first|(with_reducible assumption)|assumption)
          obtain ⟨ad133,A133_4,c133_4,A133_5,c133_5,e133,hx133_0,hx133_1,hx133_2,hx133_3,hx133_4,hx133_5,hl133_4,hi133_4,hl133_5,hi133_5⟩:=at_T29 (Kd.V_reads' HO_28.out).2.2 x30_2 p133 q133
          cases e133
          obtain ⟨ce133,hce133,hMe133,hcc133⟩:=Kd.V_get HO_28.out z29 x30_2 p133 (by first|exact q133|exact of_decide_eq_true (by first|(with_reducible assumption)|assumption)|(have e_:=(Kd.V_reads' HO_28.out).1;omega))
          obtain ⟨ua133_4,uc133_4,ua133_5,uc133_5,rfl,ul133_4,ge133_4,ul133_5,ge133_5⟩:=k29_openF hMe133
          have hv133_4:=hcc133 4 _ rfl
          rw [add_field _ _ 4 (by omega)] at hv133_4
          replace hv133_4:=Option.some.inj (hv133_4.symm.trans hx133_4)
          injection hv133_4 with hva_ hvn_ hvc_
          rw [hva_] at ge133_4
          rw [hvc_] at ul133_4
          have HL133_4:=Aside0.mk (show Kd.V k29 29 _ w.heap.size _ _ ((rd_T29 t130 x30_2).f4) from Kd.V_mk ul133_4 ge133_4)
          clear hva_ hvn_ hvc_ ge133_4 ul133_4
          have hv133_5:=hcc133 5 _ rfl
          rw [add_field _ _ 5 (by omega)] at hv133_5
          replace hv133_5:=Option.some.inj (hv133_5.symm.trans hx133_5)
          injection hv133_5 with hva_ hvn_ hvc_
          rw [hva_] at ge133_5
          rw [hvc_] at ul133_5
          have HL133_5:=Aside0.mk (show Kd.V k48 48 _ w.heap.size _ _ ((rd_T29 t130 x30_2).f5) from Kd.V_mk ul133_5 ge133_5)
          clear hva_ hvn_ hvc_ ge133_5 ul133_5
          clear hcc133 hce133
          have HR133_4:=Aside0.mk hi133_4
          have HC133_4:=Aside0.mk hl133_4
          clear hi133_4 hl133_4
          have HR133_5:=Aside0.mk hi133_5
          have HC133_5:=Aside0.mk hl133_5
          clear hi133_5 hl133_5
          replace p133:=eq_true p133
          replace q133:=eq_true q133
          go_wp2_with (first|((with_reducible refine gate_dst (N:=5) rfl ?_);refine box_event ?hg (N:=5) ?hd (cs:=#[.int .i64 0,.bool false,.int .i64 0,.string (⟨#[]⟩ : ByteArray),.slice none 0 0,.slice none 0 0]) (t:=29) ?hr ?_;(case hd=>rfl);(case hg=>rfl);(case hr=>first|(go_simp;done)|(go_simp;rfl));intro gb134 hg w28 hbox hb;have n0_:=Aside0.mk (Kd.V_below (Kd.V_elderB (by (with_reducible repeat (first|apply Kd.V_alloc|apply Kd.V_drewN|apply Kd.V_drew));exact HO_28.out) gb134 (Nat.le_of_eq hg.symm)) hb);have n1_:=Aside0.mk (Kd.V_below (Kd.V_elderB (by (with_reducible repeat (first|apply Kd.V_alloc|apply Kd.V_drewN|apply Kd.V_drew));exact HL133_4.out) gb134 (Nat.le_of_eq hg.symm)) hb);have n2_:=Aside0.mk (Kd.V_below (Kd.V_elderB (by (with_reducible repeat (first|apply Kd.V_alloc|apply Kd.V_drewN|apply Kd.V_drew));exact HL133_5.out) gb134 (Nat.le_of_eq hg.symm)) hb);have n3_:=Aside0.mk (blk_below (g:=gb127) (o:=.cells #[.int .i64 a0_0,.bool a0_1,.int .i64 a0_2,.string a0_3,.slice A0_4 l0_4.length c0_4,.slice A0_5 l0_5.length c0_5] 29 (0,0)) (by (with_reducible repeat (first|apply blk_drewN|apply blk_drew|apply blk_alloc));exact BK127.out) hb);have n4_:=Aside0.mk (Kd.C_below (by repeat (first|(with_reducible exact HR133_4.out)|(with_reducible refine Kd.C_alloc ?_ _)|(with_reducible refine Kd.C_drewN ?_ _)|(with_reducible refine Kd.C_drew ?_)|exact HR133_4.out)) hb);have n5_:=Aside0.mk (Kd.C_below (by repeat (first|(with_reducible exact HR133_5.out)|(with_reducible refine Kd.C_alloc ?_ _)|(with_reducible refine Kd.C_drewN ?_ _)|(with_reducible refine Kd.C_drew ?_)|exact HR133_5.out)) hb);have n6_:=Aside0.mk (below_step (by repeat (first|(with_reducible first|exact HB.out|apply below_alloc|apply pw_below_drewN|apply below_drew1|refine below_set ?_ GE127.out)|exact HB.out)) hb);have n7_:=Aside0.mk (hbox);have n8_:=Aside0.mk ((by rw [hg];exact (below_size (by repeat (first|(with_reducible first|exact HB.out|apply below_alloc|apply pw_below_drewN|apply below_drew1|refine below_set ?_ GE127.out)|exact HB.out))) : w.heap.size ≤ gb134));have n9_:=Aside0.mk ((by rw [hg];exact (below_size (by repeat (first|(with_reducible first|exact HB.out|apply below_alloc|apply pw_below_drewN|apply below_drew1|refine below_set ?_ GE127.out)|exact HB.out))) : w.heap.size ≤ gb134));have n10_:=Aside0.mk ((by rw [hg];exact Nat.ne_of_lt (blk_lt (g:=gb127) (o:=.cells #[.int .i64 a0_0,.bool a0_1,.int .i64 a0_2,.string a0_3,.slice A0_4 l0_4.length c0_4,.slice A0_5 l0_5.length c0_5] 29 (0,0)) (by (with_reducible repeat (first|apply blk_drewN|apply blk_drew|apply blk_alloc));exact BK127.out)) : gb127 ≠ gb134));have n11_:=Aside0.mk ((by rw [hg];exact Nat.ne_of_gt (blk_lt (g:=gb127) (o:=.cells #[.int .i64 a0_0,.bool a0_1,.int .i64 a0_2,.string a0_3,.slice A0_4 l0_4.length c0_4,.slice A0_5 l0_5.length c0_5] 29 (0,0)) (by (with_reducible repeat (first|apply blk_drewN|apply blk_drew|apply blk_alloc));exact BK127.out)) : gb134 ≠ gb127));clear HO_28;clear HL133_4;clear HL133_5;clear BK127;clear HR133_4;clear HR133_5;clear HB;have HO_28:=n0_;have HL133_4:=n1_;have HL133_5:=n2_;have BK127:=n3_;have HR133_4:=n4_;have HR133_5:=n5_;have HB:=n6_;have BK134:=n7_;have GW134:=n8_;have GE134:=n9_;have NB127_134:=n10_;have NB134_127:=n11_;clear n0_ n1_ n2_ n3_ n4_ n5_ n6_ n7_ n8_ n9_ n10_ n11_;clear hb hbox hg;have hnb29:=NB134_127.out;have hnc29:=NB127_134.out;have hcz30_0 : w28.cell? ⟨gb134,0,none⟩ = some (.int .i64 0):=(blk_cell BK134.out 0).trans rfl;have hcz30_1 : w28.cell? ⟨gb134,1,none⟩ = some (.bool false):=(blk_cell BK134.out 1).trans rfl;have hcz30_2 : w28.cell? ⟨gb134,2,none⟩ = some (.int .i64 0):=(blk_cell BK134.out 2).trans rfl;have hcz30_3 : w28.cell? ⟨gb134,3,none⟩ = some (.string (⟨#[]⟩ : ByteArray)):=(blk_cell BK134.out 3).trans rfl;have hcz30_4 : w28.cell? ⟨gb134,4,none⟩ = some (.slice none 0 0):=(blk_cell BK134.out 4).trans rfl;have hcz30_5 : w28.cell? ⟨gb134,5,none⟩ = some (.slice none 0 0):=(blk_cell BK134.out 5).trans rfl;have hfz30_0:=blk_frozen BK134.out 0;have hfz30_1:=blk_frozen BK134.out 1;have hfz30_2:=blk_frozen BK134.out 2;have hfz30_3:=blk_frozen BK134.out 3;have hfz30_4:=blk_frozen BK134.out 4;have hfz30_5:=blk_frozen BK134.out 5)|((with_reducible refine gate_callee (f:=34) rfl ?_);refine goesL_ (some 35) rfl rfl Tryd.func34 (by kernel_rfl) rfl #[.agg #[.int .i64 ((rd_T29 t130 x30_2).f0),.bool ((rd_T29 t130 x30_2).f1),.int .i64 ((rd_T29 t130 x30_2).f2),.string ((rd_T29 t130 x30_2).f3),.slice A133_4 ((rd_T29 t130 x30_2).f4).length c133_4,.slice A133_5 ((rd_T29 t130 x30_2).f5).length c133_5]] rfl (by (try simp only [List.map_toArray,List.map_cons,List.map_nil]);first|done|rfl|(simp only [List.length_drop,List.length_take];rfl)|(simp (disch:=first|omega|(simp at *;omega)) only [u64_id,i64_id,u8_id];rfl)) ?_;(with_reducible refine (ih k2 (by have:=HJ1.out;have:=HK2.out;omega) ((rd_T29 t130 x30_2).f0) ((rd_T29 t130 x30_2).f1) ((rd_T29 t130 x30_2).f2) ((rd_T29 t130 x30_2).f3) _ _ ((rd_T29 t130 x30_2).f4) _ _ ((rd_T29 t130 x30_2).f5) t135 _ ?side1 ?side2 ?side3 ?side4 A26.out (by first|assumption|exact GW.below hG (by first|exact HB.out|assumption|(repeat (first|(with_reducible first|exact HB.out|apply below_alloc|apply pw_below_drewN|apply below_drew1|refine below_set ?_ GE134.out)|exact HB.out)))|exact GW.drawn hG (by first|assumption|(repeat (first|exact Drawn0.refl _|assumption|apply Drawn0.step))))).mono ?_);(case side1=>repeat (first|exact ((Kd.V_reads' (by (with_reducible repeat (first|apply Kd.V_alloc|apply Kd.V_drewN|apply Kd.V_drew));exact (Kd.V_mono (Kd.V_far (p:=⟨gb134,5,none⟩) (Kd.V_far (p:=⟨gb134,4,none⟩) (Kd.V_far (p:=⟨gb134,3,none⟩) (Kd.V_far (p:=⟨gb134,2,none⟩) (Kd.V_far (p:=⟨gb134,1,none⟩) (Kd.V_far (p:=⟨gb134,0,none⟩) (Kd.V_mono HL133_4.out (fun k_ hk=>(⟨hk,hk.2⟩ : _ ∧ k_ ≠ gb134))) (fun _ hk=>hk.2) (.int .i64 ((rd_T29 t130 x30_2).f0))) (fun _ hk=>hk.2) (.bool ((rd_T29 t130 x30_2).f1))) (fun _ hk=>hk.2) (.int .i64 ((rd_T29 t130 x30_2).f2))) (fun _ hk=>hk.2) (.string ((rd_T29 t130 x30_2).f3))) (fun _ hk=>hk.2) (.slice A133_4 ((rd_T29 t130 x30_2).f4).length c133_4)) (fun _ hk=>hk.2) (.slice A133_5 ((rd_T29 t130 x30_2).f5).length c133_5)) (fun _ h_=>h_.1)))).2.2)|(with_reducible refine Kd.C_alloc ?_ _)|(with_reducible refine Kd.C_drewN ?_ _)|(with_reducible refine Kd.C_drew ?_)));(case side2=>exact HC133_4.out);(case side3=>repeat (first|exact ((Kd.V_reads' (by (with_reducible repeat (first|apply Kd.V_alloc|apply Kd.V_drewN|apply Kd.V_drew));exact (Kd.V_mono (Kd.V_far (p:=⟨gb134,5,none⟩) (Kd.V_far (p:=⟨gb134,4,none⟩) (Kd.V_far (p:=⟨gb134,3,none⟩) (Kd.V_far (p:=⟨gb134,2,none⟩) (Kd.V_far (p:=⟨gb134,1,none⟩) (Kd.V_far (p:=⟨gb134,0,none⟩) (Kd.V_mono HL133_5.out (fun k_ hk=>(⟨hk,hk.2⟩ : _ ∧ k_ ≠ gb134))) (fun _ hk=>hk.2) (.int .i64 ((rd_T29 t130 x30_2).f0))) (fun _ hk=>hk.2) (.bool ((rd_T29 t130 x30_2).f1))) (fun _ hk=>hk.2) (.int .i64 ((rd_T29 t130 x30_2).f2))) (fun _ hk=>hk.2) (.string ((rd_T29 t130 x30_2).f3))) (fun _ hk=>hk.2) (.slice A133_4 ((rd_T29 t130 x30_2).f4).length c133_4)) (fun _ hk=>hk.2) (.slice A133_5 ((rd_T29 t130 x30_2).f5).length c133_5)) (fun _ h_=>h_.1)))).2.2)|(with_reducible refine Kd.C_alloc ?_ _)|(with_reducible refine Kd.C_drewN ?_ _)|(with_reducible refine Kd.C_drew ?_)));(case side4=>exact HC133_5.out);rintro e w31 ⟨rfl,hb⟩;refine ⟨_,rfl,?_⟩;have n0_:=Aside0.mk (Kd.V_below (by (with_reducible repeat (first|apply Kd.V_alloc|apply Kd.V_drewN|apply Kd.V_drew));exact (Kd.V_mono (Kd.V_far (p:=⟨gb134,5,none⟩) (Kd.V_far (p:=⟨gb134,4,none⟩) (Kd.V_far (p:=⟨gb134,3,none⟩) (Kd.V_far (p:=⟨gb134,2,none⟩) (Kd.V_far (p:=⟨gb134,1,none⟩) (Kd.V_far (p:=⟨gb134,0,none⟩) (Kd.V_mono HO_28.out (fun k_ hk=>(⟨hk,hk.2⟩ : _ ∧ k_ ≠ gb134))) (fun _ hk=>hk.2) (.int .i64 ((rd_T29 t130 x30_2).f0))) (fun _ hk=>hk.2) (.bool ((rd_T29 t130 x30_2).f1))) (fun _ hk=>hk.2) (.int .i64 ((rd_T29 t130 x30_2).f2))) (fun _ hk=>hk.2) (.string ((rd_T29 t130 x30_2).f3))) (fun _ hk=>hk.2) (.slice A133_4 ((rd_T29 t130 x30_2).f4).length c133_4)) (fun _ hk=>hk.2) (.slice A133_5 ((rd_T29 t130 x30_2).f5).length c133_5)) (fun _ h_=>h_.1))) hb);have n1_:=Aside0.mk (Kd.V_below (by (with_reducible repeat (first|apply Kd.V_alloc|apply Kd.V_drewN|apply Kd.V_drew));exact (Kd.V_mono (Kd.V_far (p:=⟨gb134,5,none⟩) (Kd.V_far (p:=⟨gb134,4,none⟩) (Kd.V_far (p:=⟨gb134,3,none⟩) (Kd.V_far (p:=⟨gb134,2,none⟩) (Kd.V_far (p:=⟨gb134,1,none⟩) (Kd.V_far (p:=⟨gb134,0,none⟩) (Kd.V_mono HL133_4.out (fun k_ hk=>(⟨hk,hk.2⟩ : _ ∧ k_ ≠ gb134))) (fun _ hk=>hk.2) (.int .i64 ((rd_T29 t130 x30_2).f0))) (fun _ hk=>hk.2) (.bool ((rd_T29 t130 x30_2).f1))) (fun _ hk=>hk.2) (.int .i64 ((rd_T29 t130 x30_2).f2))) (fun _ hk=>hk.2) (.string ((rd_T29 t130 x30_2).f3))) (fun _ hk=>hk.2) (.slice A133_4 ((rd_T29 t130 x30_2).f4).length c133_4)) (fun _ hk=>hk.2) (.slice A133_5 ((rd_T29 t130 x30_2).f5).length c133_5)) (fun _ h_=>h_.1))) hb);have n2_:=Aside0.mk (Kd.V_below (by (with_reducible repeat (first|apply Kd.V_alloc|apply Kd.V_drewN|apply Kd.V_drew));exact (Kd.V_mono (Kd.V_far (p:=⟨gb134,5,none⟩) (Kd.V_far (p:=⟨gb134,4,none⟩) (Kd.V_far (p:=⟨gb134,3,none⟩) (Kd.V_far (p:=⟨gb134,2,none⟩) (Kd.V_far (p:=⟨gb134,1,none⟩) (Kd.V_far (p:=⟨gb134,0,none⟩) (Kd.V_mono HL133_5.out (fun k_ hk=>(⟨hk,hk.2⟩ : _ ∧ k_ ≠ gb134))) (fun _ hk=>hk.2) (.int .i64 ((rd_T29 t130 x30_2).f0))) (fun _ hk=>hk.2) (.bool ((rd_T29 t130 x30_2).f1))) (fun _ hk=>hk.2) (.int .i64 ((rd_T29 t130 x30_2).f2))) (fun _ hk=>hk.2) (.string ((rd_T29 t130 x30_2).f3))) (fun _ hk=>hk.2) (.slice A133_4 ((rd_T29 t130 x30_2).f4).length c133_4)) (fun _ hk=>hk.2) (.slice A133_5 ((rd_T29 t130 x30_2).f5).length c133_5)) (fun _ h_=>h_.1))) hb);have n3_:=Aside0.mk (blk_below (g:=gb127) (o:=.cells #[.int .i64 a0_0,.bool a0_1,.int .i64 a0_2,.string a0_3,.slice A0_4 l0_4.length c0_4,.slice A0_5 l0_5.length c0_5] 29 (0,0)) (by (with_reducible repeat (first|apply blk_drewN|apply blk_drew|apply blk_alloc));refine blk_far ?_ NB127_134.out _;(with_reducible repeat (first|apply blk_drewN|apply blk_drew|apply blk_alloc));refine blk_far ?_ NB127_134.out _;(with_reducible repeat (first|apply blk_drewN|apply blk_drew|apply blk_alloc));refine blk_far ?_ NB127_134.out _;(with_reducible repeat (first|apply blk_drewN|apply blk_drew|apply blk_alloc));refine blk_far ?_ NB127_134.out _;(with_reducible repeat (first|apply blk_drewN|apply blk_drew|apply blk_alloc));refine blk_far ?_ NB127_134.out _;(with_reducible repeat (first|apply blk_drewN|apply blk_drew|apply blk_alloc));refine blk_far ?_ NB127_134.out _;(with_reducible repeat (first|apply blk_drewN|apply blk_drew|apply blk_alloc));exact BK127.out) hb);have n4_:=Aside0.mk (Kd.C_below ((Kd.V_reads' (by (with_reducible repeat (first|apply Kd.V_alloc|apply Kd.V_drewN|apply Kd.V_drew));exact (Kd.V_mono (Kd.V_far (p:=⟨gb134,5,none⟩) (Kd.V_far (p:=⟨gb134,4,none⟩) (Kd.V_far (p:=⟨gb134,3,none⟩) (Kd.V_far (p:=⟨gb134,2,none⟩) (Kd.V_far (p:=⟨gb134,1,none⟩) (Kd.V_far (p:=⟨gb134,0,none⟩) (Kd.V_mono HL133_4.out (fun k_ hk=>(⟨hk,hk.2⟩ : _ ∧ k_ ≠ gb134))) (fun _ hk=>hk.2) (.int .i64 ((rd_T29 t130 x30_2).f0))) (fun _ hk=>hk.2) (.bool ((rd_T29 t130 x30_2).f1))) (fun _ hk=>hk.2) (.int .i64 ((rd_T29 t130 x30_2).f2))) (fun _ hk=>hk.2) (.string ((rd_T29 t130 x30_2).f3))) (fun _ hk=>hk.2) (.slice A133_4 ((rd_T29 t130 x30_2).f4).length c133_4)) (fun _ hk=>hk.2) (.slice A133_5 ((rd_T29 t130 x30_2).f5).length c133_5)) (fun _ h_=>h_.1)))).2.2) hb);have n5_:=Aside0.mk (Kd.C_below ((Kd.V_reads' (by (with_reducible repeat (first|apply Kd.V_alloc|apply Kd.V_drewN|apply Kd.V_drew));exact (Kd.V_mono (Kd.V_far (p:=⟨gb134,5,none⟩) (Kd.V_far (p:=⟨gb134,4,none⟩) (Kd.V_far (p:=⟨gb134,3,none⟩) (Kd.V_far (p:=⟨gb134,2,none⟩) (Kd.V_far (p:=⟨gb134,1,none⟩) (Kd.V_far (p:=⟨gb134,0,none⟩) (Kd.V_mono HL133_5.out (fun k_ hk=>(⟨hk,hk.2⟩ : _ ∧ k_ ≠ gb134))) (fun _ hk=>hk.2) (.int .i64 ((rd_T29 t130 x30_2).f0))) (fun _ hk=>hk.2) (.bool ((rd_T29 t130 x30_2).f1))) (fun _ hk=>hk.2) (.int .i64 ((rd_T29 t130 x30_2).f2))) (fun _ hk=>hk.2) (.string ((rd_T29 t130 x30_2).f3))) (fun _ hk=>hk.2) (.slice A133_4 ((rd_T29 t130 x30_2).f4).length c133_4)) (fun _ hk=>hk.2) (.slice A133_5 ((rd_T29 t130 x30_2).f5).length c133_5)) (fun _ h_=>h_.1)))).2.2) hb);have n6_:=Aside0.mk (blk_below (g:=gb134) (o:=.cells #[.int .i64 ((rd_T29 t130 x30_2).f0),.bool ((rd_T29 t130 x30_2).f1),.int .i64 ((rd_T29 t130 x30_2).f2),.string ((rd_T29 t130 x30_2).f3),.slice A133_4 ((rd_T29 t130 x30_2).f4).length c133_4,.slice A133_5 ((rd_T29 t130 x30_2).f5).length c133_5] 29 (0,0)) (by (with_reducible repeat (first|apply blk_drewN|apply blk_drew|apply blk_alloc));refine blk_put (cs:=#[.int .i64 ((rd_T29 t130 x30_2).f0),.bool ((rd_T29 t130 x30_2).f1),.int .i64 ((rd_T29 t130 x30_2).f2),.string ((rd_T29 t130 x30_2).f3),.slice A133_4 ((rd_T29 t130 x30_2).f4).length c133_4,.slice none 0 0]) ?_ 5 _ rfl;(with_reducible repeat (first|apply blk_drewN|apply blk_drew|apply blk_alloc));refine blk_put (cs:=#[.int .i64 ((rd_T29 t130 x30_2).f0),.bool ((rd_T29 t130 x30_2).f1),.int .i64 ((rd_T29 t130 x30_2).f2),.string ((rd_T29 t130 x30_2).f3),.slice none 0 0,.slice none 0 0]) ?_ 4 _ rfl;(with_reducible repeat (first|apply blk_drewN|apply blk_drew|apply blk_alloc));refine blk_put (cs:=#[.int .i64 ((rd_T29 t130 x30_2).f0),.bool ((rd_T29 t130 x30_2).f1),.int .i64 ((rd_T29 t130 x30_2).f2),.string (⟨#[]⟩ : ByteArray),.slice none 0 0,.slice none 0 0]) ?_ 3 _ rfl;(with_reducible repeat (first|apply blk_drewN|apply blk_drew|apply blk_alloc));refine blk_put (cs:=#[.int .i64 ((rd_T29 t130 x30_2).f0),.bool ((rd_T29 t130 x30_2).f1),.int .i64 0,.string (⟨#[]⟩ : ByteArray),.slice none 0 0,.slice none 0 0]) ?_ 2 _ rfl;(with_reducible repeat (first|apply blk_drewN|apply blk_drew|apply blk_alloc));refine blk_put (cs:=#[.int .i64 ((rd_T29 t130 x30_2).f0),.bool false,.int .i64 0,.string (⟨#[]⟩ : ByteArray),.slice none 0 0,.slice none 0 0]) ?_ 1 _ rfl;(with_reducible repeat (first|apply blk_drewN|apply blk_drew|apply blk_alloc));refine blk_put (cs:=#[.int .i64 0,.bool false,.int .i64 0,.string (⟨#[]⟩ : ByteArray),.slice none 0 0,.slice none 0 0]) ?_ 0 _ rfl;(with_reducible repeat (first|apply blk_drewN|apply blk_drew|apply blk_alloc));exact BK134.out) hb);have n7_:=Aside0.mk (below_step (by repeat (first|(with_reducible first|exact HB.out|apply below_alloc|apply pw_below_drewN|apply below_drew1|refine below_set ?_ GE127.out|refine below_set ?_ GE134.out)|exact HB.out)) hb);clear HO_28;clear HL133_4;clear HL133_5;clear BK127;clear HR133_4;clear HR133_5;clear BK134;clear HB;have HO_28:=n0_;have HL133_4:=n1_;have HL133_5:=n2_;have BK127:=n3_;have HR133_4:=n4_;have HR133_5:=n5_;have BK134:=n6_;have HB:=n7_;clear n0_ n1_ n2_ n3_ n4_ n5_ n6_ n7_;(try clear hb);(try clear hb2);(try clear hk);(try clear hi)))
          go_roundg k2
          case measure=>have:=HJ1.out;have:=HK2.out;omega
          case rel=>exact ⟨(wrap64 (x30_2 + 1)),(by first|rfl|(simp;done)|(simp [*];done)),H',⟨by have:=HJ1.out;have:=HK2.out;omega⟩,⟨by (with_reducible repeat (first|apply Kd.V_alloc|apply Kd.V_drewN|apply Kd.V_drew));exact Kd.V_mono HO_28.out (fun _ hk=>hk.1)⟩,⟨by (with_reducible repeat (first|apply blk_drewN|apply blk_drew|apply blk_alloc));exact BK127.out⟩,⟨by repeat (first|(with_reducible first|exact HB.out|apply below_alloc|apply pw_below_drewN|apply below_drew1|refine below_set ?_ GE127.out|refine below_set ?_ GE134.out)|exact HB.out)⟩⟩
         ·rw [if_neg c27] at H
          have c27b0 : (t135 == 0) = false:=beq_eq_false_iff_ne.mpr c27
          have c27b1 : (t135 != 0) = true:=bne_iff_ne.mpr c27
          obtain rfl:=Option.some.inj H
          have p133 : 0 ≤ (x30_2 : Int):=of_decide_eq_true (by first|(with_reducible assumption)|assumption)
          have q133 : x30_2 < (t130.length : Int):=of_decide_eq_true (by first|(with_reducible assumption)|assumption)
          obtain ⟨ad133,A133_4,c133_4,A133_5,c133_5,e133,hx133_0,hx133_1,hx133_2,hx133_3,hx133_4,hx133_5,hl133_4,hi133_4,hl133_5,hi133_5⟩:=at_T29 (Kd.V_reads' HO_28.out).2.2 x30_2 p133 q133
          cases e133
          obtain ⟨ce133,hce133,hMe133,hcc133⟩:=Kd.V_get HO_28.out z29 x30_2 p133 (by first|exact q133|exact of_decide_eq_true (by first|(with_reducible assumption)|assumption)|(have e_:=(Kd.V_reads' HO_28.out).1;omega))
          obtain ⟨ua133_4,uc133_4,ua133_5,uc133_5,rfl,ul133_4,ge133_4,ul133_5,ge133_5⟩:=k29_openF hMe133
          have hv133_4:=hcc133 4 _ rfl
          rw [add_field _ _ 4 (by omega)] at hv133_4
          replace hv133_4:=Option.some.inj (hv133_4.symm.trans hx133_4)
          injection hv133_4 with hva_ hvn_ hvc_
          rw [hva_] at ge133_4
          rw [hvc_] at ul133_4
          have HL133_4:=Aside0.mk (show Kd.V k29 29 _ w.heap.size _ _ ((rd_T29 t130 x30_2).f4) from Kd.V_mk ul133_4 ge133_4)
          clear hva_ hvn_ hvc_ ge133_4 ul133_4
          have hv133_5:=hcc133 5 _ rfl
          rw [add_field _ _ 5 (by omega)] at hv133_5
          replace hv133_5:=Option.some.inj (hv133_5.symm.trans hx133_5)
          injection hv133_5 with hva_ hvn_ hvc_
          rw [hva_] at ge133_5
          rw [hvc_] at ul133_5
          have HL133_5:=Aside0.mk (show Kd.V k48 48 _ w.heap.size _ _ ((rd_T29 t130 x30_2).f5) from Kd.V_mk ul133_5 ge133_5)
          clear hva_ hvn_ hvc_ ge133_5 ul133_5
          clear hcc133 hce133
          have HR133_4:=Aside0.mk hi133_4
          have HC133_4:=Aside0.mk hl133_4
          clear hi133_4 hl133_4
          have HR133_5:=Aside0.mk hi133_5
          have HC133_5:=Aside0.mk hl133_5
          clear hi133_5 hl133_5
          replace p133:=eq_true p133
          replace q133:=eq_true q133
          go_wp2_with (first|((with_reducible refine gate_dst (N:=5) rfl ?_);refine box_event ?hg (N:=5) ?hd (cs:=#[.int .i64 0,.bool false,.int .i64 0,.string (⟨#[]⟩ : ByteArray),.slice none 0 0,.slice none 0 0]) (t:=29) ?hr ?_;(case hd=>rfl);(case hg=>rfl);(case hr=>first|(go_simp;done)|(go_simp;rfl));intro gb134 hg w32 hbox hb;have n0_:=Aside0.mk (Kd.V_below (Kd.V_elderB (by (with_reducible repeat (first|apply Kd.V_alloc|apply Kd.V_drewN|apply Kd.V_drew));exact HO_28.out) gb134 (Nat.le_of_eq hg.symm)) hb);have n1_:=Aside0.mk (Kd.V_below (Kd.V_elderB (by (with_reducible repeat (first|apply Kd.V_alloc|apply Kd.V_drewN|apply Kd.V_drew));exact HL133_4.out) gb134 (Nat.le_of_eq hg.symm)) hb);have n2_:=Aside0.mk (Kd.V_below (Kd.V_elderB (by (with_reducible repeat (first|apply Kd.V_alloc|apply Kd.V_drewN|apply Kd.V_drew));exact HL133_5.out) gb134 (Nat.le_of_eq hg.symm)) hb);have n3_:=Aside0.mk (blk_below (g:=gb127) (o:=.cells #[.int .i64 a0_0,.bool a0_1,.int .i64 a0_2,.string a0_3,.slice A0_4 l0_4.length c0_4,.slice A0_5 l0_5.length c0_5] 29 (0,0)) (by (with_reducible repeat (first|apply blk_drewN|apply blk_drew|apply blk_alloc));exact BK127.out) hb);have n4_:=Aside0.mk (Kd.C_below (by repeat (first|(with_reducible exact HR133_4.out)|(with_reducible refine Kd.C_alloc ?_ _)|(with_reducible refine Kd.C_drewN ?_ _)|(with_reducible refine Kd.C_drew ?_)|exact HR133_4.out)) hb);have n5_:=Aside0.mk (Kd.C_below (by repeat (first|(with_reducible exact HR133_5.out)|(with_reducible refine Kd.C_alloc ?_ _)|(with_reducible refine Kd.C_drewN ?_ _)|(with_reducible refine Kd.C_drew ?_)|exact HR133_5.out)) hb);have n6_:=Aside0.mk (below_step (by repeat (first|(with_reducible first|exact HB.out|apply below_alloc|apply pw_below_drewN|apply below_drew1|refine below_set ?_ GE127.out)|exact HB.out)) hb);have n7_:=Aside0.mk (hbox);have n8_:=Aside0.mk ((by rw [hg];exact (below_size (by repeat (first|(with_reducible first|exact HB.out|apply below_alloc|apply pw_below_drewN|apply below_drew1|refine below_set ?_ GE127.out)|exact HB.out))) : w.heap.size ≤ gb134));have n9_:=Aside0.mk ((by rw [hg];exact (below_size (by repeat (first|(with_reducible first|exact HB.out|apply below_alloc|apply pw_below_drewN|apply below_drew1|refine below_set ?_ GE127.out)|exact HB.out))) : w.heap.size ≤ gb134));have n10_:=Aside0.mk ((by rw [hg];exact Nat.ne_of_lt (blk_lt (g:=gb127) (o:=.cells #[.int .i64 a0_0,.bool a0_1,.int .i64 a0_2,.string a0_3,.slice A0_4 l0_4.length c0_4,.slice A0_5 l0_5.length c0_5] 29 (0,0)) (by (with_reducible repeat (first|apply blk_drewN|apply blk_drew|apply blk_alloc));exact BK127.out)) : gb127 ≠ gb134));have n11_:=Aside0.mk ((by rw [hg];exact Nat.ne_of_gt (blk_lt (g:=gb127) (o:=.cells #[.int .i64 a0_0,.bool a0_1,.int .i64 a0_2,.string a0_3,.slice A0_4 l0_4.length c0_4,.slice A0_5 l0_5.length c0_5] 29 (0,0)) (by (with_reducible repeat (first|apply blk_drewN|apply blk_drew|apply blk_alloc));exact BK127.out)) : gb134 ≠ gb127));clear HO_28;clear HL133_4;clear HL133_5;clear BK127;clear HR133_4;clear HR133_5;clear HB;have HO_28:=n0_;have HL133_4:=n1_;have HL133_5:=n2_;have BK127:=n3_;have HR133_4:=n4_;have HR133_5:=n5_;have HB:=n6_;have BK134:=n7_;have GW134:=n8_;have GE134:=n9_;have NB127_134:=n10_;have NB134_127:=n11_;clear n0_ n1_ n2_ n3_ n4_ n5_ n6_ n7_ n8_ n9_ n10_ n11_;clear hb hbox hg;have hnb33:=NB134_127.out;have hnc33:=NB127_134.out;have hcz34_0 : w32.cell? ⟨gb134,0,none⟩ = some (.int .i64 0):=(blk_cell BK134.out 0).trans rfl;have hcz34_1 : w32.cell? ⟨gb134,1,none⟩ = some (.bool false):=(blk_cell BK134.out 1).trans rfl;have hcz34_2 : w32.cell? ⟨gb134,2,none⟩ = some (.int .i64 0):=(blk_cell BK134.out 2).trans rfl;have hcz34_3 : w32.cell? ⟨gb134,3,none⟩ = some (.string (⟨#[]⟩ : ByteArray)):=(blk_cell BK134.out 3).trans rfl;have hcz34_4 : w32.cell? ⟨gb134,4,none⟩ = some (.slice none 0 0):=(blk_cell BK134.out 4).trans rfl;have hcz34_5 : w32.cell? ⟨gb134,5,none⟩ = some (.slice none 0 0):=(blk_cell BK134.out 5).trans rfl;have hfz34_0:=blk_frozen BK134.out 0;have hfz34_1:=blk_frozen BK134.out 1;have hfz34_2:=blk_frozen BK134.out 2;have hfz34_3:=blk_frozen BK134.out 3;have hfz34_4:=blk_frozen BK134.out 4;have hfz34_5:=blk_frozen BK134.out 5)|((with_reducible refine gate_callee (f:=34) rfl ?_);refine goesL_ (some 35) rfl rfl Tryd.func34 (by kernel_rfl) rfl #[.agg #[.int .i64 ((rd_T29 t130 x30_2).f0),.bool ((rd_T29 t130 x30_2).f1),.int .i64 ((rd_T29 t130 x30_2).f2),.string ((rd_T29 t130 x30_2).f3),.slice A133_4 ((rd_T29 t130 x30_2).f4).length c133_4,.slice A133_5 ((rd_T29 t130 x30_2).f5).length c133_5]] rfl (by (try simp only [List.map_toArray,List.map_cons,List.map_nil]);first|done|rfl|(simp only [List.length_drop,List.length_take];rfl)|(simp (disch:=first|omega|(simp at *;omega)) only [u64_id,i64_id,u8_id];rfl)) ?_;(with_reducible refine (ih k2 (by have:=HJ1.out;have:=HK2.out;omega) ((rd_T29 t130 x30_2).f0) ((rd_T29 t130 x30_2).f1) ((rd_T29 t130 x30_2).f2) ((rd_T29 t130 x30_2).f3) _ _ ((rd_T29 t130 x30_2).f4) _ _ ((rd_T29 t130 x30_2).f5) t135 _ ?side1 ?side2 ?side3 ?side4 A26.out (by first|assumption|exact GW.below hG (by first|exact HB.out|assumption|(repeat (first|(with_reducible first|exact HB.out|apply below_alloc|apply pw_below_drewN|apply below_drew1|refine below_set ?_ GE134.out)|exact HB.out)))|exact GW.drawn hG (by first|assumption|(repeat (first|exact Drawn0.refl _|assumption|apply Drawn0.step))))).mono ?_);(case side1=>repeat (first|exact ((Kd.V_reads' (by (with_reducible repeat (first|apply Kd.V_alloc|apply Kd.V_drewN|apply Kd.V_drew));exact (Kd.V_mono (Kd.V_far (p:=⟨gb134,5,none⟩) (Kd.V_far (p:=⟨gb134,4,none⟩) (Kd.V_far (p:=⟨gb134,3,none⟩) (Kd.V_far (p:=⟨gb134,2,none⟩) (Kd.V_far (p:=⟨gb134,1,none⟩) (Kd.V_far (p:=⟨gb134,0,none⟩) (Kd.V_mono HL133_4.out (fun k_ hk=>(⟨hk,hk.2⟩ : _ ∧ k_ ≠ gb134))) (fun _ hk=>hk.2) (.int .i64 ((rd_T29 t130 x30_2).f0))) (fun _ hk=>hk.2) (.bool ((rd_T29 t130 x30_2).f1))) (fun _ hk=>hk.2) (.int .i64 ((rd_T29 t130 x30_2).f2))) (fun _ hk=>hk.2) (.string ((rd_T29 t130 x30_2).f3))) (fun _ hk=>hk.2) (.slice A133_4 ((rd_T29 t130 x30_2).f4).length c133_4)) (fun _ hk=>hk.2) (.slice A133_5 ((rd_T29 t130 x30_2).f5).length c133_5)) (fun _ h_=>h_.1)))).2.2)|(with_reducible refine Kd.C_alloc ?_ _)|(with_reducible refine Kd.C_drewN ?_ _)|(with_reducible refine Kd.C_drew ?_)));(case side2=>exact HC133_4.out);(case side3=>repeat (first|exact ((Kd.V_reads' (by (with_reducible repeat (first|apply Kd.V_alloc|apply Kd.V_drewN|apply Kd.V_drew));exact (Kd.V_mono (Kd.V_far (p:=⟨gb134,5,none⟩) (Kd.V_far (p:=⟨gb134,4,none⟩) (Kd.V_far (p:=⟨gb134,3,none⟩) (Kd.V_far (p:=⟨gb134,2,none⟩) (Kd.V_far (p:=⟨gb134,1,none⟩) (Kd.V_far (p:=⟨gb134,0,none⟩) (Kd.V_mono HL133_5.out (fun k_ hk=>(⟨hk,hk.2⟩ : _ ∧ k_ ≠ gb134))) (fun _ hk=>hk.2) (.int .i64 ((rd_T29 t130 x30_2).f0))) (fun _ hk=>hk.2) (.bool ((rd_T29 t130 x30_2).f1))) (fun _ hk=>hk.2) (.int .i64 ((rd_T29 t130 x30_2).f2))) (fun _ hk=>hk.2) (.string ((rd_T29 t130 x30_2).f3))) (fun _ hk=>hk.2) (.slice A133_4 ((rd_T29 t130 x30_2).f4).length c133_4)) (fun _ hk=>hk.2) (.slice A133_5 ((rd_T29 t130 x30_2).f5).length c133_5)) (fun _ h_=>h_.1)))).2.2)|(with_reducible refine Kd.C_alloc ?_ _)|(with_reducible refine Kd.C_drewN ?_ _)|(with_reducible refine Kd.C_drew ?_)));(case side4=>exact HC133_5.out);rintro e w35 ⟨rfl,hb⟩;refine ⟨_,rfl,?_⟩;have n0_:=Aside0.mk (Kd.V_below (by (with_reducible repeat (first|apply Kd.V_alloc|apply Kd.V_drewN|apply Kd.V_drew));exact (Kd.V_mono (Kd.V_far (p:=⟨gb134,5,none⟩) (Kd.V_far (p:=⟨gb134,4,none⟩) (Kd.V_far (p:=⟨gb134,3,none⟩) (Kd.V_far (p:=⟨gb134,2,none⟩) (Kd.V_far (p:=⟨gb134,1,none⟩) (Kd.V_far (p:=⟨gb134,0,none⟩) (Kd.V_mono HO_28.out (fun k_ hk=>(⟨hk,hk.2⟩ : _ ∧ k_ ≠ gb134))) (fun _ hk=>hk.2) (.int .i64 ((rd_T29 t130 x30_2).f0))) (fun _ hk=>hk.2) (.bool ((rd_T29 t130 x30_2).f1))) (fun _ hk=>hk.2) (.int .i64 ((rd_T29 t130 x30_2).f2))) (fun _ hk=>hk.2) (.string ((rd_T29 t130 x30_2).f3))) (fun _ hk=>hk.2) (.slice A133_4 ((rd_T29 t130 x30_2).f4).length c133_4)) (fun _ hk=>hk.2) (.slice A133_5 ((rd_T29 t130 x30_2).f5).length c133_5)) (fun _ h_=>h_.1))) hb);have n1_:=Aside0.mk (Kd.V_below (by (with_reducible repeat (first|apply Kd.V_alloc|apply Kd.V_drewN|apply Kd.V_drew));exact (Kd.V_mono (Kd.V_far (p:=⟨gb134,5,none⟩) (Kd.V_far (p:=⟨gb134,4,none⟩) (Kd.V_far (p:=⟨gb134,3,none⟩) (Kd.V_far (p:=⟨gb134,2,none⟩) (Kd.V_far (p:=⟨gb134,1,none⟩) (Kd.V_far (p:=⟨gb134,0,none⟩) (Kd.V_mono HL133_4.out (fun k_ hk=>(⟨hk,hk.2⟩ : _ ∧ k_ ≠ gb134))) (fun _ hk=>hk.2) (.int .i64 ((rd_T29 t130 x30_2).f0))) (fun _ hk=>hk.2) (.bool ((rd_T29 t130 x30_2).f1))) (fun _ hk=>hk.2) (.int .i64 ((rd_T29 t130 x30_2).f2))) (fun _ hk=>hk.2) (.string ((rd_T29 t130 x30_2).f3))) (fun _ hk=>hk.2) (.slice A133_4 ((rd_T29 t130 x30_2).f4).length c133_4)) (fun _ hk=>hk.2) (.slice A133_5 ((rd_T29 t130 x30_2).f5).length c133_5)) (fun _ h_=>h_.1))) hb);have n2_:=Aside0.mk (Kd.V_below (by (with_reducible repeat (first|apply Kd.V_alloc|apply Kd.V_drewN|apply Kd.V_drew));exact (Kd.V_mono (Kd.V_far (p:=⟨gb134,5,none⟩) (Kd.V_far (p:=⟨gb134,4,none⟩) (Kd.V_far (p:=⟨gb134,3,none⟩) (Kd.V_far (p:=⟨gb134,2,none⟩) (Kd.V_far (p:=⟨gb134,1,none⟩) (Kd.V_far (p:=⟨gb134,0,none⟩) (Kd.V_mono HL133_5.out (fun k_ hk=>(⟨hk,hk.2⟩ : _ ∧ k_ ≠ gb134))) (fun _ hk=>hk.2) (.int .i64 ((rd_T29 t130 x30_2).f0))) (fun _ hk=>hk.2) (.bool ((rd_T29 t130 x30_2).f1))) (fun _ hk=>hk.2) (.int .i64 ((rd_T29 t130 x30_2).f2))) (fun _ hk=>hk.2) (.string ((rd_T29 t130 x30_2).f3))) (fun _ hk=>hk.2) (.slice A133_4 ((rd_T29 t130 x30_2).f4).length c133_4)) (fun _ hk=>hk.2) (.slice A133_5 ((rd_T29 t130 x30_2).f5).length c133_5)) (fun _ h_=>h_.1))) hb);have n3_:=Aside0.mk (blk_below (g:=gb127) (o:=.cells #[.int .i64 a0_0,.bool a0_1,.int .i64 a0_2,.string a0_3,.slice A0_4 l0_4.length c0_4,.slice A0_5 l0_5.length c0_5] 29 (0,0)) (by (with_reducible repeat (first|apply blk_drewN|apply blk_drew|apply blk_alloc));refine blk_far ?_ NB127_134.out _;(with_reducible repeat (first|apply blk_drewN|apply blk_drew|apply blk_alloc));refine blk_far ?_ NB127_134.out _;(with_reducible repeat (first|apply blk_drewN|apply blk_drew|apply blk_alloc));refine blk_far ?_ NB127_134.out _;(with_reducible repeat (first|apply blk_drewN|apply blk_drew|apply blk_alloc));refine blk_far ?_ NB127_134.out _;(with_reducible repeat (first|apply blk_drewN|apply blk_drew|apply blk_alloc));refine blk_far ?_ NB127_134.out _;(with_reducible repeat (first|apply blk_drewN|apply blk_drew|apply blk_alloc));refine blk_far ?_ NB127_134.out _;(with_reducible repeat (first|apply blk_drewN|apply blk_drew|apply blk_alloc));exact BK127.out) hb);have n4_:=Aside0.mk (Kd.C_below ((Kd.V_reads' (by (with_reducible repeat (first|apply Kd.V_alloc|apply Kd.V_drewN|apply Kd.V_drew));exact (Kd.V_mono (Kd.V_far (p:=⟨gb134,5,none⟩) (Kd.V_far (p:=⟨gb134,4,none⟩) (Kd.V_far (p:=⟨gb134,3,none⟩) (Kd.V_far (p:=⟨gb134,2,none⟩) (Kd.V_far (p:=⟨gb134,1,none⟩) (Kd.V_far (p:=⟨gb134,0,none⟩) (Kd.V_mono HL133_4.out (fun k_ hk=>(⟨hk,hk.2⟩ : _ ∧ k_ ≠ gb134))) (fun _ hk=>hk.2) (.int .i64 ((rd_T29 t130 x30_2).f0))) (fun _ hk=>hk.2) (.bool ((rd_T29 t130 x30_2).f1))) (fun _ hk=>hk.2) (.int .i64 ((rd_T29 t130 x30_2).f2))) (fun _ hk=>hk.2) (.string ((rd_T29 t130 x30_2).f3))) (fun _ hk=>hk.2) (.slice A133_4 ((rd_T29 t130 x30_2).f4).length c133_4)) (fun _ hk=>hk.2) (.slice A133_5 ((rd_T29 t130 x30_2).f5).length c133_5)) (fun _ h_=>h_.1)))).2.2) hb);have n5_:=Aside0.mk (Kd.C_below ((Kd.V_reads' (by (with_reducible repeat (first|apply Kd.V_alloc|apply Kd.V_drewN|apply Kd.V_drew));exact (Kd.V_mono (Kd.V_far (p:=⟨gb134,5,none⟩) (Kd.V_far (p:=⟨gb134,4,none⟩) (Kd.V_far (p:=⟨gb134,3,none⟩) (Kd.V_far (p:=⟨gb134,2,none⟩) (Kd.V_far (p:=⟨gb134,1,none⟩) (Kd.V_far (p:=⟨gb134,0,none⟩) (Kd.V_mono HL133_5.out (fun k_ hk=>(⟨hk,hk.2⟩ : _ ∧ k_ ≠ gb134))) (fun _ hk=>hk.2) (.int .i64 ((rd_T29 t130 x30_2).f0))) (fun _ hk=>hk.2) (.bool ((rd_T29 t130 x30_2).f1))) (fun _ hk=>hk.2) (.int .i64 ((rd_T29 t130 x30_2).f2))) (fun _ hk=>hk.2) (.string ((rd_T29 t130 x30_2).f3))) (fun _ hk=>hk.2) (.slice A133_4 ((rd_T29 t130 x30_2).f4).length c133_4)) (fun _ hk=>hk.2) (.slice A133_5 ((rd_T29 t130 x30_2).f5).length c133_5)) (fun _ h_=>h_.1)))).2.2) hb);have n6_:=Aside0.mk (blk_below (g:=gb134) (o:=.cells #[.int .i64 ((rd_T29 t130 x30_2).f0),.bool ((rd_T29 t130 x30_2).f1),.int .i64 ((rd_T29 t130 x30_2).f2),.string ((rd_T29 t130 x30_2).f3),.slice A133_4 ((rd_T29 t130 x30_2).f4).length c133_4,.slice A133_5 ((rd_T29 t130 x30_2).f5).length c133_5] 29 (0,0)) (by (with_reducible repeat (first|apply blk_drewN|apply blk_drew|apply blk_alloc));refine blk_put (cs:=#[.int .i64 ((rd_T29 t130 x30_2).f0),.bool ((rd_T29 t130 x30_2).f1),.int .i64 ((rd_T29 t130 x30_2).f2),.string ((rd_T29 t130 x30_2).f3),.slice A133_4 ((rd_T29 t130 x30_2).f4).length c133_4,.slice none 0 0]) ?_ 5 _ rfl;(with_reducible repeat (first|apply blk_drewN|apply blk_drew|apply blk_alloc));refine blk_put (cs:=#[.int .i64 ((rd_T29 t130 x30_2).f0),.bool ((rd_T29 t130 x30_2).f1),.int .i64 ((rd_T29 t130 x30_2).f2),.string ((rd_T29 t130 x30_2).f3),.slice none 0 0,.slice none 0 0]) ?_ 4 _ rfl;(with_reducible repeat (first|apply blk_drewN|apply blk_drew|apply blk_alloc));refine blk_put (cs:=#[.int .i64 ((rd_T29 t130 x30_2).f0),.bool ((rd_T29 t130 x30_2).f1),.int .i64 ((rd_T29 t130 x30_2).f2),.string (⟨#[]⟩ : ByteArray),.slice none 0 0,.slice none 0 0]) ?_ 3 _ rfl;(with_reducible repeat (first|apply blk_drewN|apply blk_drew|apply blk_alloc));refine blk_put (cs:=#[.int .i64 ((rd_T29 t130 x30_2).f0),.bool ((rd_T29 t130 x30_2).f1),.int .i64 0,.string (⟨#[]⟩ : ByteArray),.slice none 0 0,.slice none 0 0]) ?_ 2 _ rfl;(with_reducible repeat (first|apply blk_drewN|apply blk_drew|apply blk_alloc));refine blk_put (cs:=#[.int .i64 ((rd_T29 t130 x30_2).f0),.bool false,.int .i64 0,.string (⟨#[]⟩ : ByteArray),.slice none 0 0,.slice none 0 0]) ?_ 1 _ rfl;(with_reducible repeat (first|apply blk_drewN|apply blk_drew|apply blk_alloc));refine blk_put (cs:=#[.int .i64 0,.bool false,.int .i64 0,.string (⟨#[]⟩ : ByteArray),.slice none 0 0,.slice none 0 0]) ?_ 0 _ rfl;(with_reducible repeat (first|apply blk_drewN|apply blk_drew|apply blk_alloc));exact BK134.out) hb);have n7_:=Aside0.mk (below_step (by repeat (first|(with_reducible first|exact HB.out|apply below_alloc|apply pw_below_drewN|apply below_drew1|refine below_set ?_ GE127.out|refine below_set ?_ GE134.out)|exact HB.out)) hb);clear HO_28;clear HL133_4;clear HL133_5;clear BK127;clear HR133_4;clear HR133_5;clear BK134;clear HB;have HO_28:=n0_;have HL133_4:=n1_;have HL133_5:=n2_;have BK127:=n3_;have HR133_4:=n4_;have HR133_5:=n5_;have BK134:=n6_;have HB:=n7_;clear n0_ n1_ n2_ n3_ n4_ n5_ n6_ n7_;(try clear hb);(try clear hb2);(try clear hk);(try clear hi)))
          go_ret
          exact ⟨by first|rfl|(simp [errW_none,errW_some] <;> rfl)|(simp [*,errW_none,errW_some] <;> rfl),by repeat (first|(with_reducible first|exact HB.out|apply below_alloc|apply pw_below_drewN|apply below_drew1|refine below_set ?_ GE127.out|refine below_set ?_ GE134.out)|exact HB.out)⟩
        ·rw [if_neg c25] at H
         exact absurd H (by simp)
       ·rw [if_neg c24] at H
        exact absurd H (by simp)
      ·rw [if_neg c23] at H
       have c23b0 : decide (x30_2 < (t130.length : Int)) = false:=decide_eq_false c23
       clear c23
       obtain rfl:=Option.some.inj H
       go_wp2
       go_ret
       exact ⟨by first|rfl|(simp [errW_none,errW_some] <;> rfl)|(simp [*,errW_none,errW_some] <;> rfl),by repeat (first|(with_reducible first|exact HB.out|apply below_alloc|apply pw_below_drewN|apply below_drew1|refine below_set ?_ GE127.out)|exact HB.out)⟩
   ·rw [if_neg c18] at H
    have c18b0 : (x3_1 == 0) = false:=beq_eq_false_iff_ne.mpr c18
    have c18b1 : (x3_1 != 0) = true:=bne_iff_ne.mpr c18
    obtain rfl:=Option.some.inj H
    go_wp2
    go_ret
    exact ⟨by first|rfl|(simp [errW_none,errW_some] <;> rfl)|(simp [*,errW_none,errW_some] <;> rfl),by repeat (first|(with_reducible first|exact HB.out|apply below_alloc|apply pw_below_drewN|apply below_drew1|refine below_set ?_ GE127.out)|exact HB.out)⟩

end Go.Proofs.YtnkkbiabloodaaaDoor.GVa
