/- Written by this session's own program (wip/gen.py) out of the translation: plain Lean functions of the Go functions, and proofs that the calls come to their answers. No conditions beside those in the statements. -/
import Derived.Test.YthnbkhggbfnpcaaGEvx0
namespace Go.Proofs.Ythnbkhggbfnpcaa.GEv
open Go.RowKit Go.Proofs.YthnbkhggbfnpcaaW.PrintWords Go.Proofs.YthnbkhggbfnpcaaW.PrintLast Go.Proofs.YthnbkhggbfnpcaaW.PrintMore
attribute [local go_sem] max2_int min2_int max_two min_two max_three min_three max_four min_four   -- for this text's walks alone
set_option linter.unusedVariables false
set_option linter.unusedSimpArgs false

/-! ### evict_row_Swap: function 45 -/
def evict_row_Swap.f (l0 : List (S55)) (a1 : Int) (a2 : Int) : Option ((List (S55))):=if 0 ≤ a2 then (if a2 < (l0.length : Int) then (if 0 ≤ a1 then (if a1 < (l0.length : Int) then (some ((l0.set (a1 : Int).toNat (⟨(⟨(rd_T55 l0 a2).f0.f0,(rd_T55 l0 a2).f0.f1,(rd_T55 l0 a2).f0.f2⟩ : S27),(rd_T55 l0 a2).f1⟩ : S55)).set (a2 : Int).toNat (⟨(⟨(rd_T55 l0 a1).f0.f0,(rd_T55 l0 a1).f0.f1,(rd_T55 l0 a1).f0.f2⟩ : S27),(rd_T55 l0 a1).f1⟩ : S55))) else (none)) else (none)) else (none)) else (none)
def evict_row_Swap.T0 : Bool × List (List Nat × List Nat):=(true,[([],[]),([],[]),([],[]),([],[]),([],[]),([],[]),([4,5],[4,5]),([6],[6]),([],[]),([],[]),([8,9],[8,9]),([10],[10]),([0,1,0,1,4,5,6,7,11],[0,1]),([12,7,0,1,4,5,6,7,11],[7,12]),([2,3,0,1,2,3,4,5,6,7,8,9,10,11,12,13],[2,3]),([14,11,13,0,1,2,3,4,5,6,7,8,9,10,11,12,13],[11,14])])
def evict_row_Swap.B0 : List Nat:=[0,0,0,0,0,0,48,112,0,0,768,1792,4083,8179,16383,32767]
theorem evict_row_Swap.tab0 : rtab .any (opsOf Try.f45 0) = evict_row_Swap.T0:=by kernel_rfl
theorem evict_row_Swap.bits0 : waitsOk evict_row_Swap.T0.2 evict_row_Swap.B0 = true:=by kernel_rfl
set_option maxHeartbeats 8000000 in
set_option maxRecDepth 100000 in
theorem evict_row_Swap.calls (P0_ : Nat → Prop) (u9000_ : Value) (l0 : List (S55)) (a1 : Int) (a2 : Int) (r : List (S55)) (w0 w : World) (hB : Below w0.heap.size w0 w) (ho0 : Kd.R k55 55 w w0.heap.size P0_ u9000_ l0) (h : evict_row_Swap.f l0 a1 a2 = some r) :
  Calls Try.prog 45 #[u9000_,.int .i64 a1,.int .i64 a2] w fun e w'=>e = .returned (.tuple #[]) ∧ Kd.R k55 55 w' w0.heap.size (fun k_=>(P0_ k_ ∨ w.heap.size ≤ k_)) u9000_ r ∧ Below w0.heap.size w0 w' ∧ Kept w w' (fun k_=>P0_ k_):=by
 have hu55:=Try.underlying55
 have HO0:=Aside0.mk (show Kd.R k55 55 w w0.heap.size (fun k_=>(P0_ k_ ∨ w.heap.size ≤ k_)) u9000_ l0 from Kd.R_mono ho0 (fun k_ hk=>(.inl hk)))
 have HK:=Aside0.mk (Kept.refl w (fun k_=>P0_ k_))
 have HW0:=Aside0.mk hB.size
 have HB:=Aside0.mk hB
 clear hB
 have H : (if 0 ≤ a2 then (if a2 < (l0.length : Int) then (if 0 ≤ a1 then (if a1 < (l0.length : Int) then (some ((l0.set (a1 : Int).toNat (⟨(⟨(rd_T55 l0 a2).f0.f0,(rd_T55 l0 a2).f0.f1,(rd_T55 l0 a2).f0.f2⟩ : S27),(rd_T55 l0 a2).f1⟩ : S55)).set (a2 : Int).toNat (⟨(⟨(rd_T55 l0 a1).f0.f0,(rd_T55 l0 a1).f0.f1,(rd_T55 l0 a1).f0.f2⟩ : S27),(rd_T55 l0 a1).f1⟩ : S55))) else (none)) else (none)) else (none)) else (none)) = some r:=h
 clear h
 by_cases c4 : 0 ≤ a2
 ·rw [if_pos c4] at H
  have c4b0 : decide (0 ≤ a2) = true:=decide_eq_true c4
  clear c4
  by_cases c5 : a2 < (l0.length : Int)
  ·rw [if_pos c5] at H
   have c5b0 : decide (a2 < (l0.length : Int)) = true:=decide_eq_true c5
   clear c5
   by_cases c6 : 0 ≤ a1
   ·rw [if_pos c6] at H
    have c6b0 : decide (0 ≤ a1) = true:=decide_eq_true c6
    clear c6
    by_cases c7 : a1 < (l0.length : Int)
    ·rw [if_pos c7] at H
     have c7b0 : decide (a1 < (l0.length : Int)) = true:=decide_eq_true c7
     clear c7
     obtain ⟨y113,hy113⟩ : ∃ y_ : List (S55),y_ = (l0.set (a1 : Int).toNat (⟨(⟨(rd_T55 l0 a2).f0.f0,(rd_T55 l0 a2).f0.f1,(rd_T55 l0 a2).f0.f2⟩ : S27),(rd_T55 l0 a2).f1⟩ : S55)):=⟨_,rfl⟩
     replace H : (some (y113.set (a2 : Int).toNat (⟨(⟨(rd_T55 l0 a1).f0.f0,(rd_T55 l0 a1).f0.f1,(rd_T55 l0 a1).f0.f2⟩ : S27),(rd_T55 l0 a1).f1⟩ : S55))) = some r:=by first|(rw [hy113];with_reducible exact H)|(have H2_:=(Option.bind_some _ _).symm.trans H;rw [hy113];with_reducible exact H2_)|(have H2_:=(Option.bind_some _ _).symm.trans H;with_reducible exact H2_)|with_reducible exact H|(rw [hy113];exact H)|exact H
     have Ny113:=Aside0.mk hy113
     clear hy113
     obtain ⟨y114,hy114⟩ : ∃ y_ : List (S55),y_ = (y113.set (a2 : Int).toNat (⟨(⟨(rd_T55 l0 a1).f0.f0,(rd_T55 l0 a1).f0.f1,(rd_T55 l0 a1).f0.f2⟩ : S27),(rd_T55 l0 a1).f1⟩ : S55)):=⟨_,rfl⟩
     replace H : (some y114) = some r:=by first|(rw [hy114];with_reducible exact H)|(have H2_:=(Option.bind_some _ _).symm.trans H;rw [hy114];with_reducible exact H2_)|(have H2_:=(Option.bind_some _ _).symm.trans H;with_reducible exact H2_)|with_reducible exact H|(rw [hy114];exact H)|exact H
     have Ny114:=Aside0.mk hy114
     clear hy114
     obtain rfl:=Option.some.inj H
     go_enter Try.func45,Try.ntmps45
     try go_wp2
     have n0_:=Aside0.mk (Kd.R_drew HO0.out)
     have n1_:=Aside0.mk (Kept.drew HK.out)
     have n2_:=Aside0.mk (below_drew1 HB.out)
     clear HO0
     clear HK
     clear HB
     have HO0:=n0_
     have HK:=n1_
     have HB:=n2_
     clear n0_ n1_ n2_
     obtain ⟨Ao11,co11,eo11⟩:=Kd.R_slice HO0.out
     (first|subst eo11|(injection eo11 with f1_ f2_ f3_;have f4_:=f1_.symm;have f5_:=f3_.symm;clear f1_ f2_ f3_;subst f4_;subst f5_))
     have p111 : 0 ≤ (a2 : Int):=of_decide_eq_true (by first|(with_reducible assumption)|assumption)
     have q111 : a2 < (l0.length : Int):=of_decide_eq_true (by first|(with_reducible assumption)|assumption)
     obtain ⟨ad111,e111,hx111_0,hx111_1,hx111_2,hx111_3⟩:=at_T55 (Kd.R_reads' HO0.out).2.2 a2 p111 q111
     cases e111
     replace p111:=eq_true p111
     replace q111:=eq_true q111
     have p112 : 0 ≤ (a1 : Int):=of_decide_eq_true (by first|(with_reducible assumption)|assumption)
     have q112 : a1 < (l0.length : Int):=of_decide_eq_true (by first|(with_reducible assumption)|assumption)
     obtain ⟨ad112,e112,hx112_0,hx112_1,hx112_2,hx112_3⟩:=at_T55 (Kd.R_reads' HO0.out).2.2 a1 p112 q112
     obtain rfl : ad111 = ad112:=(by injection e112)
     replace p112:=eq_true p112
     replace q112:=eq_true q112
     have p8 : 0 ≤ (a1 : Int):=of_decide_eq_true (by first|(with_reducible assumption)|assumption)
     have q8 : (a1 : Int) < ((l0.length : Int) : Int):=of_decide_eq_true (by first|(with_reducible assumption)|assumption)
     obtain ⟨go8,co8,eo8,gb8,gl8,cl8,HG8⟩:=Kd.R_form HO0.out (by omega)
     (first|cases eo8|(injection eo8 with ea_ en_ ec_;(first|subst ea_|(injection ea_ with ea_;subst ea_));subst ec_;clear en_))
     have GB8:=Aside0.mk gb8
     have GG8:=Aside0.mk HG8
     clear gb8 gl8 HG8
     have HMgo8:=Aside0.mk (show (P0_ go8 ∨ w.heap.size ≤ go8) from (HO0.out.1 _ rfl))
     (first|simp only [add_plain] at hx111_0|skip)
     (first|simp only [add_plain] at hx111_1|skip)
     (first|simp only [add_plain] at hx111_2|skip)
     (first|simp only [add_plain] at hx111_3|skip)
     (first|simp only [add_plain] at hx112_0|skip)
     (first|simp only [add_plain] at hx112_1|skip)
     (first|simp only [add_plain] at hx112_2|skip)
     (first|simp only [add_plain] at hx112_3|skip)
     obtain ⟨ce8,hcl8,hM8,hcc8,hfr8⟩:=Kd.R_elem HO0.out z55 (a1 : Int) p8 q8
     obtain rfl:=k55_openM hM8
     have hx8_0 : World.cell? _ ⟨go8,(a1 : Int).toNat * 4,none⟩ = some (.string ((rd_T55 l0 a1).f0.f0)):=hcc8 0 _ rfl
     have hx8_1 : World.cell? _ ⟨go8,(a1 : Int).toNat * 4 + 1,none⟩ = some (.float .f64 ((rd_T55 l0 a1).f0.f1)):=hcc8 1 _ rfl
     have hx8_2 : World.cell? _ ⟨go8,(a1 : Int).toNat * 4 + 2,none⟩ = some (.float .f64 ((rd_T55 l0 a1).f0.f2)):=hcc8 2 _ rfl
     have hx8_3 : World.cell? _ ⟨go8,(a1 : Int).toNat * 4 + 3,none⟩ = some (.int .i64 ((rd_T55 l0 a1).f1)):=hcc8 3 _ rfl
     have hf8_0 : World.frozen? _ ⟨go8,(a1 : Int).toNat * 4,none⟩ = false:=hfr8 0
     have hf8_1 : World.frozen? _ ⟨go8,(a1 : Int).toNat * 4 + 1,none⟩ = false:=hfr8 1
     have hf8_2 : World.frozen? _ ⟨go8,(a1 : Int).toNat * 4 + 2,none⟩ = false:=hfr8 2
     have hf8_3 : World.frozen? _ ⟨go8,(a1 : Int).toNat * 4 + 3,none⟩ = false:=hfr8 3
     clear hcl8 hcc8 hfr8 hM8
     replace p8:=eq_true p8
     replace q8:=eq_true q8
     obtain ⟨ce12,hcl12,hM12,hcc12,hfr12⟩:=Kd.R_elem HO0.out z55 (a1 : Int) (of_decide_eq_true (by first|(with_reducible assumption)|assumption)) (by have h_ : (a1 : Int) < ((l0.length : Int) : Int):=of_decide_eq_true (by first|(with_reducible assumption)|assumption);first|exact h_|(have e_:=(Kd.R_reads' HO0.out).1;omega)|simpa using h_)
     obtain rfl:=k55_openM hM12
     have HP12:=(Kd.R_seg HO0.out (a1 : Int) (of_decide_eq_true (by first|(with_reducible assumption)|assumption)) (by have h_ : (a1 : Int) < ((l0.length : Int) : Int):=of_decide_eq_true (by first|(with_reducible assumption)|assumption);first|exact h_|(have e_:=(Kd.R_reads' HO0.out).1;omega)|simpa using h_) (seg:=[.string ((rd_T55 l0 a2).f0.f0),.float .f64 ((rd_T55 l0 a2).f0.f1),.float .f64 ((rd_T55 l0 a2).f0.f2),.int .i64 ((rd_T55 l0 a2).f1)]) (j:=0) hcl12 hcc12 (show 4 ≤ 4 from by decide) (x':=(⟨(⟨(rd_T55 l0 a2).f0.f0,(rd_T55 l0 a2).f0.f1,(rd_T55 l0 a2).f0.f2⟩ : S27),(rd_T55 l0 a2).f1⟩ : S55)) (k55_mkM _ _ _ (⟨(⟨(rd_T55 l0 a2).f0.f0,(rd_T55 l0 a2).f0.f1,(rd_T55 l0 a2).f0.f2⟩ : S27),(rd_T55 l0 a2).f1⟩ : S55) ) (fun _ hk=>hk)).1
     rw [← Ny113.out] at HP12
     have HQ12:=Aside0.mk HP12
     clear hcl12 hcc12 hfr12 hM12 HP12
     have p9 : 0 ≤ (a2 : Int):=of_decide_eq_true (by first|(with_reducible assumption)|assumption)
     have q9 : (a2 : Int) < ((l0.length : Int) : Int):=of_decide_eq_true (by first|(with_reducible assumption)|assumption)
     obtain ⟨ce9,hcl9,hM9,hcc9,hfr9⟩:=Kd.R_elem HQ12.out z55 (a2 : Int) p9 q9
     obtain rfl:=k55_openM hM9
     have hx9_0 : World.cell? _ ⟨go8,(a2 : Int).toNat * 4,none⟩ = some (.string ((rd_T55 y113 a2).f0.f0)):=hcc9 0 _ rfl
     have hx9_1 : World.cell? _ ⟨go8,(a2 : Int).toNat * 4 + 1,none⟩ = some (.float .f64 ((rd_T55 y113 a2).f0.f1)):=hcc9 1 _ rfl
     have hx9_2 : World.cell? _ ⟨go8,(a2 : Int).toNat * 4 + 2,none⟩ = some (.float .f64 ((rd_T55 y113 a2).f0.f2)):=hcc9 2 _ rfl
     have hx9_3 : World.cell? _ ⟨go8,(a2 : Int).toNat * 4 + 3,none⟩ = some (.int .i64 ((rd_T55 y113 a2).f1)):=hcc9 3 _ rfl
     have hf9_0 : World.frozen? _ ⟨go8,(a2 : Int).toNat * 4,none⟩ = false:=hfr9 0
     have hf9_1 : World.frozen? _ ⟨go8,(a2 : Int).toNat * 4 + 1,none⟩ = false:=hfr9 1
     have hf9_2 : World.frozen? _ ⟨go8,(a2 : Int).toNat * 4 + 2,none⟩ = false:=hfr9 2
     have hf9_3 : World.frozen? _ ⟨go8,(a2 : Int).toNat * 4 + 3,none⟩ = false:=hfr9 3
     clear hcl9 hcc9 hfr9 hM9
     replace p9:=eq_true p9
     replace q9:=eq_true q9
     obtain ⟨ce13,hcl13,hM13,hcc13,hfr13⟩:=Kd.R_elem HQ12.out z55 (a2 : Int) (of_decide_eq_true (by first|(with_reducible assumption)|assumption)) (by have h_ : (a2 : Int) < ((l0.length : Int) : Int):=of_decide_eq_true (by first|(with_reducible assumption)|assumption);first|exact h_|(have e_:=(Kd.R_reads' HO0.out).1;omega)|simpa using h_)
     obtain rfl:=k55_openM hM13
     have HP13:=(Kd.R_seg HQ12.out (a2 : Int) (of_decide_eq_true (by first|(with_reducible assumption)|assumption)) (by have h_ : (a2 : Int) < ((l0.length : Int) : Int):=of_decide_eq_true (by first|(with_reducible assumption)|assumption);first|exact h_|(have e_:=(Kd.R_reads' HO0.out).1;omega)|simpa using h_) (seg:=[.string ((rd_T55 l0 a1).f0.f0),.float .f64 ((rd_T55 l0 a1).f0.f1),.float .f64 ((rd_T55 l0 a1).f0.f2),.int .i64 ((rd_T55 l0 a1).f1)]) (j:=0) hcl13 hcc13 (show 4 ≤ 4 from by decide) (x':=(⟨(⟨(rd_T55 l0 a1).f0.f0,(rd_T55 l0 a1).f0.f1,(rd_T55 l0 a1).f0.f2⟩ : S27),(rd_T55 l0 a1).f1⟩ : S55)) (k55_mkM _ _ _ (⟨(⟨(rd_T55 l0 a1).f0.f0,(rd_T55 l0 a1).f0.f1,(rd_T55 l0 a1).f0.f2⟩ : S27),(rd_T55 l0 a1).f1⟩ : S55) ) (fun _ hk=>hk)).1
     rw [← Ny114.out] at HP13
     have HQ13:=Aside0.mk HP13
     clear hcl13 hcc13 hfr13 hM13 HP13
     refine start_ (n:=16) (S:=fun w'=>w'.cell? ⟨go8,((a2).toNat * 4),none⟩ = some (.string ((rd_T55 l0 a2).f0.f0)) ∧ w'.cell? ⟨go8,((a2).toNat * 4) + 1,none⟩ = some (.float .f64 ((rd_T55 l0 a2).f0.f1)) ∧ w'.cell? ⟨go8,((a2).toNat * 4) + 2,none⟩ = some (.float .f64 ((rd_T55 l0 a2).f0.f2)) ∧ w'.cell? ⟨go8,((a2).toNat * 4) + 3,none⟩ = some (.int .i64 ((rd_T55 l0 a2).f1)) ∧ w'.cell? ⟨go8,((a1).toNat * 4),none⟩ = some (.string ((rd_T55 l0 a1).f0.f0)) ∧ w'.cell? ⟨go8,((a1).toNat * 4) + 1,none⟩ = some (.float .f64 ((rd_T55 l0 a1).f0.f1)) ∧ w'.cell? ⟨go8,((a1).toNat * 4) + 2,none⟩ = some (.float .f64 ((rd_T55 l0 a1).f0.f2)) ∧ w'.cell? ⟨go8,((a1).toNat * 4) + 3,none⟩ = some (.int .i64 ((rd_T55 l0 a1).f1))) (ds:=[13,15]) #[false,false,false,false,false,false,false,false,false,false,false,false,false,false,false,false] (by kernel_rfl) rfl rfl ⟨hx111_0,hx111_1,hx111_2,hx111_3,hx112_0,hx112_1,hx112_2,hx112_3⟩ (fun hHeld=>?_);refine with_tabW evict_row_Swap.tab0 evict_row_Swap.bits0 (fun HT_ HW_=>?_)
     generalize w.drew = w10 at HO0 HK HB GG8 HQ12 HQ13 hf8_0 hf8_1 hf8_2 hf8_3 hf9_0 hf9_1 hf9_2 hf9_3 hx111_0 hx111_1 hx111_2 hx111_3 hx112_0 hx112_1 hx112_2 hx112_3 hx8_0 hx8_1 hx8_2 hx8_3 hx9_0 hx9_1 hx9_2 hx9_3 hHeld ⊢
     refine pure_ (i:=0) (N:=some 6) (v:=?_) (a':=?_) #[true,false,false,false,false,false,false,false,false,false,false,false,false,false,false,false] rfl rfl (any_of HT_.out (by kernel_rfl)) (fun _ _ _ h=>h) (Or.inl ⟨by rfl,?_⟩) ?_ ?_
     rotate_left
     ·intro w'
      go_simp
      with_reducible rfl
     rotate_left
     ·simp only [Act.put,List.setIfInBounds_toArray,List.set_cons_zero,List.set_cons_succ,i64_w,i32_w]
      rfl
     refine pure_ (i:=1) (N:=some 7) (v:=?_) (a':=?_) #[true,true,false,false,false,false,false,false,false,false,false,false,false,false,false,false] rfl rfl (any_of HT_.out (by kernel_rfl)) (fun _ _ _ h=>h) (Or.inl ⟨by rfl,?_⟩) ?_ ?_
     rotate_left
     ·intro w'
      go_simp
      with_reducible rfl
     rotate_left
     ·simp only [Act.put,List.setIfInBounds_toArray,List.set_cons_zero,List.set_cons_succ,i64_w,i32_w]
      rfl
     refine pure_ (i:=2) (N:=some 8) (v:=?_) (a':=?_) #[true,true,true,false,false,false,false,false,false,false,false,false,false,false,false,false] rfl rfl (any_of HT_.out (by kernel_rfl)) (fun _ _ _ h=>h) (Or.inl ⟨by rfl,?_⟩) ?_ ?_
     rotate_left
     ·intro w'
      go_simp
      with_reducible rfl
     rotate_left
     ·simp only [Act.put,List.setIfInBounds_toArray,List.set_cons_zero,List.set_cons_succ,i64_w,i32_w]
      rfl
     refine pure_ (i:=3) (N:=some 9) (v:=?_) (a':=?_) #[true,true,true,true,false,false,false,false,false,false,false,false,false,false,false,false] rfl rfl (any_of HT_.out (by kernel_rfl)) (fun _ _ _ h=>h) (Or.inl ⟨by rfl,?_⟩) ?_ ?_
     rotate_left
     ·intro w'
      go_simp
      with_reducible rfl
     rotate_left
     ·simp only [Act.put,List.setIfInBounds_toArray,List.set_cons_zero,List.set_cons_succ,i64_w,i32_w]
      rfl
     refine pure_ (i:=4) (N:=some 10) (v:=?_) (a':=?_) #[true,true,true,true,true,false,false,false,false,false,false,false,false,false,false,false] rfl rfl (any_of HT_.out (by kernel_rfl)) (fun _ _ _ h=>h) (Or.inl ⟨by rfl,?_⟩) ?_ ?_
     rotate_left
     ·intro w'
      go_simp
      with_reducible rfl
     rotate_left
     ·simp only [Act.put,List.setIfInBounds_toArray,List.set_cons_zero,List.set_cons_succ,i64_w,i32_w]
      rfl
     refine pure_ (i:=5) (N:=some 11) (v:=?_) (a':=?_) #[true,true,true,true,true,true,false,false,false,false,false,false,false,false,false,false] rfl rfl (any_of HT_.out (by kernel_rfl)) (fun _ _ _ h=>h) (Or.inl ⟨by rfl,?_⟩) ?_ ?_
     rotate_left
     ·intro w'
      go_simp
      with_reducible rfl
     rotate_left
     ·simp only [Act.put,List.setIfInBounds_toArray,List.set_cons_zero,List.set_cons_succ,i64_w,i32_w]
      rfl
     refine pure_ (i:=6) (N:=some 12) (v:=?_) (a':=?_) #[true,true,true,true,true,true,true,false,false,false,false,false,false,false,false,false] rfl rfl (any_of HT_.out (by kernel_rfl)) (fun _ _ _ h=>h) (Or.inl ⟨by rfl,?_⟩) ?_ ?_
     rotate_left
     ·intro w'
      go_simp
      with_reducible rfl
     rotate_left
     ·simp only [Act.put,List.setIfInBounds_toArray,List.set_cons_zero,List.set_cons_succ,i64_w,i32_w]
      rfl
     refine pure_ (i:=8) (N:=some 14) (v:=?_) (a':=?_) #[true,true,true,true,true,true,true,false,true,false,false,false,false,false,false,false] rfl rfl (any_of HT_.out (by kernel_rfl)) (fun _ _ _ h=>h) (Or.inl ⟨by rfl,?_⟩) ?_ ?_
     rotate_left
     ·intro w'
      go_simp
      with_reducible rfl
     rotate_left
     ·simp only [Act.put,List.setIfInBounds_toArray,List.set_cons_zero,List.set_cons_succ,i64_w,i32_w]
      rfl
     refine pure_ (i:=9) (N:=some 15) (v:=?_) (a':=?_) #[true,true,true,true,true,true,true,false,true,true,false,false,false,false,false,false] rfl rfl (any_of HT_.out (by kernel_rfl)) (fun _ _ _ h=>h) (Or.inl ⟨by rfl,?_⟩) ?_ ?_
     rotate_left
     ·intro w'
      go_simp
      with_reducible rfl
     rotate_left
     ·simp only [Act.put,List.setIfInBounds_toArray,List.set_cons_zero,List.set_cons_succ,i64_w,i32_w]
      rfl
     refine pure_ (i:=10) (N:=some 16) (v:=?_) (a':=?_) #[true,true,true,true,true,true,true,false,true,true,true,false,false,false,false,false] rfl rfl (any_of HT_.out (by kernel_rfl)) (fun _ _ _ h=>h) (Or.inl ⟨by rfl,?_⟩) ?_ ?_
     rotate_left
     ·intro w'
      go_simp
      with_reducible rfl
     rotate_left
     ·simp only [Act.put,List.setIfInBounds_toArray,List.set_cons_zero,List.set_cons_succ,i64_w,i32_w]
      rfl
     refine take_ (i:=7) (N:=some 13) (v:=?_) (a':=?_) #[true,true,true,true,true,true,true,true,true,true,true,false,false,false,false,false] rfl rfl (take_ofW HT_.out HW_.out (by kernel_rfl)) (fun _ _ _ h=>h) (Or.inl ⟨by rfl,?_⟩) hHeld ?_ ?_
     rotate_left
     ·rintro w' ⟨s0,s1,s2,s3,s4,s5,s6,s7⟩
      go_simp
      with_reducible rfl
     rotate_left
     ·simp only [Act.put,List.setIfInBounds_toArray,List.set_cons_zero,List.set_cons_succ,i64_w,i32_w]
      rfl
     refine take_ (i:=11) (N:=some 17) (v:=?_) (a':=?_) #[true,true,true,true,true,true,true,true,true,true,true,true,false,false,false,false] rfl rfl (take_ofW HT_.out HW_.out (by kernel_rfl)) (fun _ _ _ h=>h) (Or.inl ⟨by rfl,?_⟩) hHeld ?_ ?_
     rotate_left
     ·rintro w' ⟨s0,s1,s2,s3,s4,s5,s6,s7⟩
      go_simp
      with_reducible rfl
     rotate_left
     ·simp only [Act.put,List.setIfInBounds_toArray,List.set_cons_zero,List.set_cons_succ,i64_w,i32_w]
      rfl
     refine pure_ (i:=12) (N:=some 18) (v:=?_) (a':=?_) #[true,true,true,true,true,true,true,true,true,true,true,true,true,false,false,false] rfl rfl (any_of HT_.out (by kernel_rfl)) (fun _ _ _ h=>h) (Or.inl ⟨by rfl,?_⟩) ?_ ?_
     rotate_left
     ·intro w'
      go_simp
      with_reducible rfl
     rotate_left
     ·simp only [Act.put,List.setIfInBounds_toArray,List.set_cons_zero,List.set_cons_succ,i64_w,i32_w]
      rfl
     refine last_ (i:=13) (N:=none) #[true,true,true,true,true,true,true,true,true,true,true,true,true,true,false,false] rfl rfl (one_of HT_.out (by kernel_rfl)) (by decide) (fun K hK=>?_)
     refine skip_ (w1:=?_) (by rfl) rfl ?_ ?_
     rotate_left
     ·go_simp
      rfl
     refine hK.out _ _ ?_
     clear hK K
     refine pure_ (i:=14) (N:=some 19) (v:=?_) (a':=?_) #[true,true,true,true,true,true,true,true,true,true,true,true,true,true,true,false] rfl rfl (any_of HT_.out (by kernel_rfl)) (fun _ _ _ h=>h) (Or.inl ⟨by rfl,?_⟩) ?_ ?_
     rotate_left
     ·intro w'
      go_simp
      with_reducible rfl
     rotate_left
     ·simp only [Act.put,List.setIfInBounds_toArray,List.set_cons_zero,List.set_cons_succ,i64_w,i32_w]
      rfl
     refine last_ (i:=15) (N:=none) #[true,true,true,true,true,true,true,true,true,true,true,true,true,true,true,true] rfl rfl (one_of HT_.out (by kernel_rfl)) (by decide) (fun K hK=>?_)
     refine skip_ (w1:=?_) (by rfl) rfl ?_ ?_
     rotate_left
     ·obtain ⟨vv0_0,hv0_0⟩:=cell?_setCell_some (p:=⟨go8,a1.toNat * 4,none⟩) (x:=(.string (rd_T55 l0 a2).f0.f0)) hHeld.1
      obtain ⟨vv1_0,hv1_0⟩:=cell?_setCell_some (p:=⟨go8,a1.toNat * 4,none⟩) (x:=(.string (rd_T55 l0 a2).f0.f0)) hHeld.2.1
      obtain ⟨vv1_1,hv1_1⟩:=cell?_setCell_some (p:=⟨go8,a1.toNat * 4 + 1,none⟩) (x:=(.float .f64 (rd_T55 l0 a2).f0.f1)) hv1_0
      obtain ⟨vv2_0,hv2_0⟩:=cell?_setCell_some (p:=⟨go8,a1.toNat * 4,none⟩) (x:=(.string (rd_T55 l0 a2).f0.f0)) hHeld.2.2.1
      obtain ⟨vv2_1,hv2_1⟩:=cell?_setCell_some (p:=⟨go8,a1.toNat * 4 + 1,none⟩) (x:=(.float .f64 (rd_T55 l0 a2).f0.f1)) hv2_0
      obtain ⟨vv2_2,hv2_2⟩:=cell?_setCell_some (p:=⟨go8,a1.toNat * 4 + 2,none⟩) (x:=(.float .f64 (rd_T55 l0 a2).f0.f2)) hv2_1
      obtain ⟨vv3_0,hv3_0⟩:=cell?_setCell_some (p:=⟨go8,a1.toNat * 4,none⟩) (x:=(.string (rd_T55 l0 a2).f0.f0)) hHeld.2.2.2.1
      obtain ⟨vv3_1,hv3_1⟩:=cell?_setCell_some (p:=⟨go8,a1.toNat * 4 + 1,none⟩) (x:=(.float .f64 (rd_T55 l0 a2).f0.f1)) hv3_0
      obtain ⟨vv3_2,hv3_2⟩:=cell?_setCell_some (p:=⟨go8,a1.toNat * 4 + 2,none⟩) (x:=(.float .f64 (rd_T55 l0 a2).f0.f2)) hv3_1
      obtain ⟨vv3_3,hv3_3⟩:=cell?_setCell_some (p:=⟨go8,a1.toNat * 4 + 3,none⟩) (x:=(.int .i64 (rd_T55 l0 a2).f1)) hv3_2
      have hz0 : World.frozen? w10 ⟨go8,a2.toNat * 4,none⟩ = false:=(World.frozen?_setCells _ _ _ _ _).symm.trans hf9_0
      have hz1 : World.frozen? w10 ⟨go8,a2.toNat * 4 + 1,none⟩ = false:=(World.frozen?_setCells _ _ _ _ _).symm.trans hf9_1
      have hz2 : World.frozen? w10 ⟨go8,a2.toNat * 4 + 2,none⟩ = false:=(World.frozen?_setCells _ _ _ _ _).symm.trans hf9_2
      have hz3 : World.frozen? w10 ⟨go8,a2.toNat * 4 + 3,none⟩ = false:=(World.frozen?_setCells _ _ _ _ _).symm.trans hf9_3
      go_simp
      rfl
     refine hK.out _ _ ?_
     clear hK K
     refine done_ (done_of HT_.out (by kernel_rfl)) ?_
     try go_wp2
     first|go_end0|((try simp only [Exit.inBlock,Exit.then]);refine bodyPost_ret (results_none rfl _ _ _) rfl ?_)
     exact ⟨by first|rfl|(simp [errW_none,errW_some] <;> rfl)|(simp [*,errW_none,errW_some] <;> rfl),by (with_reducible repeat (first|apply Kd.R_alloc|apply Kd.R_drewN|apply Kd.R_drew));exact HQ13.out,by repeat (first|(with_reducible first|exact HB.out|apply below_alloc|apply pw_below_drewN|apply below_drew1|refine below_set ?_ GB8.out|refine below_set ?_ GB8.out|refine below_set ?_ GB8.out|refine below_set ?_ GB8.out|refine below_set ?_ GB8.out|refine below_set ?_ GB8.out|refine below_set ?_ GB8.out|refine below_set ?_ GB8.out)|exact HB.out),by repeat (first|(with_reducible first|exact HK.out|apply Kept.alloc|apply Kept.drewN|apply Kept.drew|refine Kept.setCell ?_ HMgo8.out _|refine Kept.setCell ?_ HMgo8.out _|refine Kept.setCell ?_ HMgo8.out _|refine Kept.setCell ?_ HMgo8.out _|refine Kept.setCell ?_ HMgo8.out _|refine Kept.setCell ?_ HMgo8.out _|refine Kept.setCell ?_ HMgo8.out _|refine Kept.setCell ?_ HMgo8.out _)|exact HK.out)⟩
    ·rw [if_neg c7] at H
     exact absurd H (by simp)
   ·rw [if_neg c6] at H
    exact absurd H (by simp)
  ·rw [if_neg c5] at H
   exact absurd H (by simp)
 ·rw [if_neg c4] at H
  exact absurd H (by simp)

/-! ### bosunlaw24_of: function 10 -/
def bosunlaw24_of.l0 : Nat → List (S39) → List (S27) → Int → Int → Option ((List (S39)))
 | 0,_,_,_,_=>none
 | k + 1,x3,x6,x7,x8=>if x8 < x7 then (if 0 ≤ x8 then (if x8 < (x6.length : Int) then (if x3.length < 4398046511104 then (bosunlaw24_of.l0 k (x3 ++ [(⟨(rd_T27 x6 x8).f0,(rd_T27 x6 x8).f1,(rd_T27 x6 x8).f2⟩ : S39)]) x6 x7 (wrap64 (x8 + 1))) else (none)) else (none)) else (none)) else (some x3)
def bosunlaw24_of.f (k : Nat) (l0 : List (S27)) : Option ((List (S39))):=bosunlaw24_of.l0 k ([] : List (S39)) l0 (l0.length : Int) 0
theorem bosunlaw24_of.mono_l : ∀ k,(∀ y0 y1 y2 y3,LeO (bosunlaw24_of.l0 k y0 y1 y2 y3) (bosunlaw24_of.l0 (k + 1) y0 y1 y2 y3))
 | 0=>fun _ _ _ _ r h=>by simp [bosunlaw24_of.l0] at h
 | k + 1=>by
  have ih0:=bosunlaw24_of.mono_l k
  ·intro y0 y1 y2 y3
   unfold bosunlaw24_of.l0
   repeat' first
   | (with_reducible exact ih0 _ _ _ _)
   | (with_reducible exact LeO.refl _)
   | (with_reducible exact LeO.none _)
   | (with_reducible refine LeO.ite ?_ ?_)
   | (with_reducible refine LeO.bind ?_ (fun _=>?_))
   | exact ih0 _ _ _ _
   | exact LeO.none _
   | refine LeO.ite ?_ ?_
   | refine LeO.bind ?_ (fun _=>?_)
theorem bosunlaw24_of.mono : ∀ a0 k,LeO (bosunlaw24_of.f k a0) (bosunlaw24_of.f (k + 1) a0):=by
 intro a0 k
 have ih0:=bosunlaw24_of.mono_l k
 unfold bosunlaw24_of.f
 repeat' first
   | (with_reducible exact ih0 _ _ _ _)
   | (with_reducible exact LeO.refl _)
   | (with_reducible exact LeO.none _)
   | (with_reducible refine LeO.ite ?_ ?_)
   | (with_reducible refine LeO.bind ?_ (fun _=>?_))
   | exact ih0 _ _ _ _
   | exact LeO.none _
   | refine LeO.ite ?_ ?_
   | refine LeO.bind ?_ (fun _=>?_)
set_option maxHeartbeats 8000000 in
set_option maxRecDepth 100000 in
theorem bosunlaw24_of.calls (k : Nat) (A0 : Option Addr) (c0 : Nat) (l0 : List (S27)) (r : List (S39)) (w : World) (hr0 : Kd.C k27 w A0 l0.length l0) (hc0 : l0.length ≤ c0) (h : bosunlaw24_of.f k l0 = some r) :
  Calls Try.prog 10 #[.slice A0 l0.length c0] w fun e w'=>∃ v0_ : Value,e = .returned (v0_) ∧ Kd.R k39 39 w' w.heap.size (fun _=>True) v0_ r ∧ Below w.heap.size w w':=by
 have hu27:=Try.underlying27
 have HR0:=Aside0.mk hr0
 have HC0:=Aside0.mk hc0
 clear hr0 hc0
 have HB:=Aside0.mk (Below.refl w.heap.size w)
 have H : (bosunlaw24_of.l0 k ([] : List (S39)) l0 (l0.length : Int) 0) = some r:=h
 clear h
 have H':=Aside0.mk H
 clear H
 go_enter Try.func10,Try.ntmps10
 go_wp2
 go_loopg [3,8] k (fun kq v3 v8 w'=>∃ (x3_1 : List (S39)) (x8_1 : Int),v8 = .int .i64 x8_1 ∧ Aside0 (bosunlaw24_of.l0 kq x3_1 l0 (l0.length : Int) x8_1 = some r) ∧ Aside0 (kq ≤ k) ∧ Aside0 (Kd.R k39 39 w' w.heap.size (fun _=>True) v3 x3_1) ∧ Aside0 (Below w.heap.size w w'))
 case atStart=>exact ⟨(([] : List (S39))),(0),(by first|rfl|(simp;done)|(simp [*];done)),H',⟨Nat.le_refl _⟩,⟨by first|exact Kd.R_nil _ _ _ _ _|exact Kd.N_nil _ _ _ _ _|exact Kd.V_nil _ _ _ _ _|exact Kd.Q_nil _ _ _ _ _|exact Kd.S_nil _ _ _ _ _⟩,⟨by repeat (first|(with_reducible first|exact HB.out|apply below_alloc|apply pw_below_drewN|apply below_drew1)|exact HB.out)⟩⟩
 case round =>
  clear H'
  try clear c1
  obtain ⟨x3_1,x8_1,rfl,HA,HK1,HO_3,HB⟩:=hrel
  cases gk with
  | zero=>exact absurd HA.out (by simp [bosunlaw24_of.l0])
  | succ k1 =>
   have H:=HA.out
   clear HA
   simp only [bosunlaw24_of.l0] at H
   by_cases c2 : x8_1 < (l0.length : Int)
   ·rw [if_pos c2] at H
    have c2b0 : decide (x8_1 < (l0.length : Int)) = true:=decide_eq_true c2
    clear c2
    by_cases c3 : 0 ≤ x8_1
    ·rw [if_pos c3] at H
     have c3b0 : decide (0 ≤ x8_1) = true:=decide_eq_true c3
     clear c3
     by_cases c4 : x8_1 < (l0.length : Int)
     ·rw [if_pos c4] at H
      have c4b0 : decide (x8_1 < (l0.length : Int)) = true:=decide_eq_true c4
      clear c4
      by_cases c5 : x3_1.length < 4398046511104
      ·rw [if_pos c5] at H
       have LMc5:=Aside0.mk c5
       clear c5
       obtain ⟨y117,hy117⟩ : ∃ y_ : List (S39),y_ = (x3_1 ++ [(⟨(rd_T27 l0 x8_1).f0,(rd_T27 l0 x8_1).f1,(rd_T27 l0 x8_1).f2⟩ : S39)]):=⟨_,rfl⟩
       replace H : (bosunlaw24_of.l0 k1 y117 l0 (l0.length : Int) (wrap64 (x8_1 + 1))) = some r:=by first|(rw [hy117];with_reducible exact H)|(have H2_:=(Option.bind_some _ _).symm.trans H;rw [hy117];with_reducible exact H2_)|(have H2_:=(Option.bind_some _ _).symm.trans H;with_reducible exact H2_)|with_reducible exact H|(rw [hy117];exact H)|exact H
       have Ny117:=Aside0.mk hy117
       clear hy117
       have H':=Aside0.mk H
       clear H
       have p115 : 0 ≤ (x8_1 : Int):=of_decide_eq_true (by first|(with_reducible assumption)|assumption)
       have q115 : x8_1 < (l0.length : Int):=of_decide_eq_true (by first|(with_reducible assumption)|assumption)
       obtain ⟨ad115,e115,hx115_0,hx115_1,hx115_2⟩:=at_T27 HR0.out x8_1 p115 q115
       cases e115
       replace hx115_0:=(HB.out.cell (World.block_lt_of_cell? w _ hx115_0)).trans hx115_0
       replace hx115_1:=(HB.out.cell (World.block_lt_of_cell? w _ hx115_1)).trans hx115_1
       replace hx115_2:=(HB.out.cell (World.block_lt_of_cell? w _ hx115_2)).trans hx115_2
       replace p115:=eq_true p115
       replace q115:=eq_true q115
       go_wp2_with (first|((with_reducible refine gate_dst (N:=5) rfl ?_);refine box_event ?hg (N:=5) ?hd (cs:=#[.string (⟨#[]⟩ : ByteArray),.float .f64 0,.float .f64 0]) (t:=27) ?hr ?_;(case hd=>rfl);(case hg=>rfl);(case hr=>first|(go_simp;done)|(go_simp;rfl));intro gb116 hg w6 hbox hb;have n0_:=Aside0.mk (Kd.R_below (by (with_reducible repeat (first|apply Kd.R_alloc|apply Kd.R_drewN|apply Kd.R_drew));exact HO_3.out) hb);have n1_:=Aside0.mk (below_step (by repeat (first|(with_reducible first|exact HB.out|apply below_alloc|apply pw_below_drewN|apply below_drew1)|exact HB.out)) hb);have n2_:=Aside0.mk (hbox);have n3_:=Aside0.mk ((by rw [hg];exact (below_size (by repeat (first|(with_reducible first|exact HB.out|apply below_alloc|apply pw_below_drewN|apply below_drew1)|exact HB.out))) : w.heap.size ≤ gb116));have n4_:=Aside0.mk ((by rw [hg];exact (below_size (by repeat (first|(with_reducible first|exact HB.out|apply below_alloc|apply pw_below_drewN|apply below_drew1)|exact HB.out))) : w.heap.size ≤ gb116));clear HO_3;clear HB;have HO_3:=n0_;have HB:=n1_;have BK116:=n2_;have GW116:=n3_;have GE116:=n4_;clear n0_ n1_ n2_ n3_ n4_;clear hb hbox hg;have hcz7_0 : w6.cell? ⟨gb116,0,none⟩ = some (.string (⟨#[]⟩ : ByteArray)):=(blk_cell BK116.out 0).trans rfl;have hcz7_1 : w6.cell? ⟨gb116,1,none⟩ = some (.float .f64 0):=(blk_cell BK116.out 1).trans rfl;have hcz7_2 : w6.cell? ⟨gb116,2,none⟩ = some (.float .f64 0):=(blk_cell BK116.out 2).trans rfl;have hfz7_0:=blk_frozen BK116.out 0;have hfz7_1:=blk_frozen BK116.out 1;have hfz7_2:=blk_frozen BK116.out 2)|((with_reducible refine gate_builtin (b:=.append) (xs:=#[.tmp 12,.tmp 14]) rfl ?_);at_builtin;refine Kd.R_append k39 (w0:=w) w.heap.size rfl (.tmp 12) (.tmp 14) 36 39 (.agg #[(.string ⟨#[]⟩),(.float .f64 0),(.float .f64 0)]) 32 rfl Try.underlying36 info39 rfl (by decide) (by omega) u3 x3_1 (⟨(rd_T27 l0 x8_1).f0,(rd_T27 l0 x8_1).f1,(rd_T27 l0 x8_1).f2⟩ : S39) [.string ((rd_T27 l0 x8_1).f0),.float .f64 ((rd_T27 l0 x8_1).f1),.float .f64 ((rd_T27 l0 x8_1).f2)] (fun _=>True) (fun _=>False) rfl (by first|(go_simp;done)|(go_simp;rfl)) ?aP (fun _ hk=>hk.elim) ?aF ?aO ?aB ?aS ?aL ?_;(case aP=>exact k39_mkM _ _ _ (⟨(rd_T27 l0 x8_1).f0,(rd_T27 l0 x8_1).f1,(rd_T27 l0 x8_1).f2⟩ : S39));(case aB=>exact (by repeat (first|(with_reducible first|exact HB.out|apply below_alloc|apply pw_below_drewN|apply below_drew1|refine below_set ?_ GE116.out)|exact HB.out)));(case aF=>exact (fun _ _=>trivial));(case aO=>exact (by (with_reducible repeat (first|apply Kd.R_alloc|apply Kd.R_drewN|apply Kd.R_drew));exact Kd.R_mono (Kd.R_far (p:=⟨gb116,2,none⟩) (Kd.R_far (p:=⟨gb116,1,none⟩) (Kd.R_far (p:=⟨gb116,0,none⟩) (Kd.R_types HO_3.out BK116.out (by decide)) (fun _ hk=>hk.2) (.string ((rd_T27 l0 x8_1).f0))) (fun _ hk=>hk.2) (.float .f64 ((rd_T27 l0 x8_1).f1))) (fun _ hk=>hk.2) (.float .f64 ((rd_T27 l0 x8_1).f2))) (fun _ hk=>trivial)));(case aS=>exact (below_size (by repeat (first|(with_reducible first|exact HB.out|apply below_alloc|apply pw_below_drewN|apply below_drew1|refine below_set ?_ GE116.out)|exact HB.out))));(case aL=>have:=LMc5.out;omega);intro v118 w8 ho hb hg hat;rw [← Ny117.out] at ho;have n0_:=Aside0.mk (blk_grown (g:=gb116) (o:=.cells #[.string ((rd_T27 l0 x8_1).f0),.float .f64 ((rd_T27 l0 x8_1).f1),.float .f64 ((rd_T27 l0 x8_1).f2)] 27 (0,0)) (by (with_reducible repeat (first|apply blk_drewN|apply blk_drew|apply blk_alloc));refine blk_put (cs:=#[.string ((rd_T27 l0 x8_1).f0),.float .f64 ((rd_T27 l0 x8_1).f1),.float .f64 0]) ?_ 2 _ rfl;(with_reducible repeat (first|apply blk_drewN|apply blk_drew|apply blk_alloc));refine blk_put (cs:=#[.string ((rd_T27 l0 x8_1).f0),.float .f64 0,.float .f64 0]) ?_ 1 _ rfl;(with_reducible repeat (first|apply blk_drewN|apply blk_drew|apply blk_alloc));refine blk_put (cs:=#[.string (⟨#[]⟩ : ByteArray),.float .f64 0,.float .f64 0]) ?_ 0 _ rfl;(with_reducible repeat (first|apply blk_drewN|apply blk_drew|apply blk_alloc));exact BK116.out) hg (Kd.R_ne HO_3.out BK116.out (by decide)));have n1_:=Aside0.mk (hb);have n2_:=Aside0.mk (ho);clear BK116;clear HB;clear HO_3;have BK116:=n0_;have HB:=n1_;have HO119:=n2_;clear n0_ n1_ n2_;clear ho hb hg hat))
       go_roundg k1
       case measure=>have:=HK1.out;omega
       case rel=>exact ⟨(y117),(wrap64 (x8_1 + 1)),(by first|rfl|(simp;done)|(simp [*];done)),H',⟨by have:=HK1.out;omega⟩,⟨by (with_reducible repeat (first|apply Kd.R_alloc|apply Kd.R_drewN|apply Kd.R_drew));exact HO119.out⟩,⟨by repeat (first|(with_reducible first|exact HB.out|apply below_alloc|apply pw_below_drewN|apply below_drew1|refine below_set ?_ GE116.out)|exact HB.out)⟩⟩
      ·rw [if_neg c5] at H
       exact absurd H (by simp)
     ·rw [if_neg c4] at H
      exact absurd H (by simp)
    ·rw [if_neg c3] at H
     exact absurd H (by simp)
   ·rw [if_neg c2] at H
    have c2b0 : decide (x8_1 < (l0.length : Int)) = false:=decide_eq_false c2
    clear c2
    obtain rfl:=Option.some.inj H
    go_wp2
    go_ret
    exact ⟨_,by first|rfl|(simp [errW_none,errW_some] <;> rfl)|(simp [*,errW_none,errW_some] <;> rfl),by (with_reducible repeat (first|apply Kd.R_alloc|apply Kd.R_drewN|apply Kd.R_drew));exact HO_3.out,by repeat (first|(with_reducible first|exact HB.out|apply below_alloc|apply pw_below_drewN|apply below_drew1)|exact HB.out)⟩

-- NOT PRINTED: function 11 (evict_Load_Score)

end Go.Proofs.Ythnbkhggbfnpcaa.GEv
