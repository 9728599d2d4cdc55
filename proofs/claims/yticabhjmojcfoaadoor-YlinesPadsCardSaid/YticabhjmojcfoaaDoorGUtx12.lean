/- Written by this session's own program (wip/gen.py) out of the translation: plain Lean functions of the Go functions, and proofs that the calls come to their answers. No conditions beside those in the statements. -/
import Derived.Test.YticabhjmojcfoaaDoorGUtx0
import Derived.Test.YticabhjmojcfoaaDoorGUtx9
import Derived.Test.YticabhjmojcfoaaDoorGUtx11
namespace Go.Proofs.YticabhjmojcfoaaDoor.GUt
open Go.RowKit Go.Proofs.YticabhjmojcfoaaDoorW.PrintWords Go.Proofs.YticabhjmojcfoaaDoorW.PrintLast Go.Proofs.YticabhjmojcfoaaDoorW.PrintMore
attribute [local go_sem] max2_int min2_int max_two min_two max_three min_three max_four min_four   -- for this text's walks alone
set_option linter.unusedVariables false
set_option linter.unusedSimpArgs false

/-! ### bosunref10_Cut: function 7 -/
mutual
def bosunref10_Cut.l0 : Nat → List (S31) → List ByteArray → Int → Option ((List (S31)) × Int × Int)
 | 0,_,_,_=>none
 | k + 1,x5,x6,x7=>if x7 < (x6.length : Int) then (if 0 ≤ x7 then ((bosunref10_content.f k (rdOf ByteArray.empty x6 x7)).bind fun bt138=>(if bt138.2 = 0 then (bosunref10_Cut.l1 k x5 x6 x7 bt138.1 (bt138.1.size : Int)) else (some (([] : List (S31)),x7,bt138.2)))) else (none)) else (some (x5,0,0))
def bosunref10_Cut.j2 : Nat → List (S31) → List ByteArray → Int → ByteArray → Int → Option ((List (S31)) × Int × Int)
 | 0,_,_,_,_,_=>none
 | k + 1,x5,x6,x7,x8,x10=>bosunref10_Cut.l2 k x5 x6 x7 x8 x10 0
def bosunref10_Cut.l2 : Nat → List (S31) → List ByteArray → Int → ByteArray → Int → Int → Option ((List (S31)) × Int × Int)
 | 0,_,_,_,_,_,_=>none
 | k + 1,x5,x6,x7,x8,x10,x11=>if x11 < x10 then (if 0 ≤ x11 then (if x11 < (x8.size : Int) then (if (bt x8 x11) = 32 then (bosunref10_Cut.l2 k x5 x6 x7 x8 x10 (wrap64 (x11 + 1))) else (if (bt x8 x11) = 45 then (if (wrap64 (x11 + 1)) = x10 then (if x5.length < 3518437208883 then (bosunref10_Cut.l2 k (x5 ++ [(⟨x7,x11,true,(⟨#[]⟩ : ByteArray)⟩ : S31)]) x6 x7 x8 x10 (wrap64 (x11 + 1))) else (none)) else (if 0 ≤ (wrap64 (x11 + 1)) then (if (wrap64 (x11 + 1)) < (x8.size : Int) then (if (bt x8 (wrap64 (x11 + 1))) = 32 then (if x5.length < 3518437208883 then (bosunref10_Cut.l2 k (x5 ++ [(⟨x7,x11,true,(⟨#[]⟩ : ByteArray)⟩ : S31)]) x6 x7 x8 x10 (wrap64 (x11 + 1))) else (none)) else (if x11 ≤ x10 then (if x10 ≤ (x8.size : Int) then (if x5.length < 3518437208883 then (bosunref10_Cut.l2 k (x5 ++ [(⟨x7,x11,false,x8.extract (x11 : Int).toNat (x10 : Int).toNat⟩ : S31)]) x6 x7 x8 x10 x10) else (none)) else (none)) else (none))) else (none)) else (none))) else (if x11 ≤ x10 then (if x10 ≤ (x8.size : Int) then (if x5.length < 3518437208883 then (bosunref10_Cut.l2 k (x5 ++ [(⟨x7,x11,false,x8.extract (x11 : Int).toNat (x10 : Int).toNat⟩ : S31)]) x6 x7 x8 x10 x10) else (none)) else (none)) else (none)))) else (none)) else (none)) else (bosunref10_Cut.l0 k x5 x6 (wrap64 (x7 + 1)))
def bosunref10_Cut.l1 : Nat → List (S31) → List ByteArray → Int → ByteArray → Int → Option ((List (S31)) × Int × Int)
 | 0,_,_,_,_,_=>none
 | k + 1,x5,x6,x7,x8,x10=>if x10 > 0 then (if 0 ≤ (wrap64 (x10 - 1)) then (if (wrap64 (x10 - 1)) < (x8.size : Int) then (if (bt x8 (wrap64 (x10 - 1))) = 32 then (bosunref10_Cut.l1 k x5 x6 x7 x8 (wrap64 (x10 - 1))) else (bosunref10_Cut.j2 k x5 x6 x7 x8 x10)) else (none)) else (none)) else (bosunref10_Cut.j2 k x5 x6 x7 x8 x10)
end
def bosunref10_Cut.f (k : Nat) (a0 : ByteArray) : Option ((List (S31)) × Int × Int):=if (a0.size : Int) > 1048576 then (some (([] : List (S31)),0,2)) else ((bosunref10_Lines.f k a0).bind fun t134=>(bosunref10_Cut.l0 k ([] : List (S31)) t134 0))
theorem bosunref10_Cut.mono_l : ∀ k,(∀ y0 y1 y2,LeO (bosunref10_Cut.l0 k y0 y1 y2) (bosunref10_Cut.l0 (k + 1) y0 y1 y2)) ∧ (∀ y0 y1 y2 y3 y4,LeO (bosunref10_Cut.j2 k y0 y1 y2 y3 y4) (bosunref10_Cut.j2 (k + 1) y0 y1 y2 y3 y4)) ∧ (∀ y0 y1 y2 y3 y4 y5,LeO (bosunref10_Cut.l2 k y0 y1 y2 y3 y4 y5) (bosunref10_Cut.l2 (k + 1) y0 y1 y2 y3 y4 y5)) ∧ (∀ y0 y1 y2 y3 y4,LeO (bosunref10_Cut.l1 k y0 y1 y2 y3 y4) (bosunref10_Cut.l1 (k + 1) y0 y1 y2 y3 y4))
 | 0=>⟨fun _ _ _ r h=>by simp [bosunref10_Cut.l0] at h,fun _ _ _ _ _ r h=>by simp [bosunref10_Cut.j2] at h,fun _ _ _ _ _ _ r h=>by simp [bosunref10_Cut.l2] at h,fun _ _ _ _ _ r h=>by simp [bosunref10_Cut.l1] at h⟩
 | k + 1=>by
  obtain ⟨ih0,ih1,ih2,ih3⟩:=bosunref10_Cut.mono_l k
  refine ⟨?_,?_,?_,?_⟩
  ·intro y0 y1 y2
   unfold bosunref10_Cut.l0
   repeat' first
   | (with_reducible exact ih0 _ _ _)
   | (with_reducible exact ih1 _ _ _ _ _)
   | (with_reducible exact ih2 _ _ _ _ _ _)
   | (with_reducible exact ih3 _ _ _ _ _)
   | (with_reducible exact bosunref10_Lines.mono _ _)
   | (with_reducible exact bosunref10_content.mono _ _)
   | (with_reducible exact LeO.refl _)
   | (with_reducible exact LeO.none _)
   | (with_reducible refine LeO.ite ?_ ?_)
   | (with_reducible refine LeO.bind ?_ (fun _=>?_))
   | exact ih0 _ _ _
   | exact ih1 _ _ _ _ _
   | exact ih2 _ _ _ _ _ _
   | exact ih3 _ _ _ _ _
   | exact bosunref10_Lines.mono _ _
   | exact bosunref10_content.mono _ _
   | exact LeO.none _
   | refine LeO.ite ?_ ?_
   | refine LeO.bind ?_ (fun _=>?_)
  ·intro y0 y1 y2 y3 y4
   unfold bosunref10_Cut.j2
   repeat' first
   | (with_reducible exact ih0 _ _ _)
   | (with_reducible exact ih1 _ _ _ _ _)
   | (with_reducible exact ih2 _ _ _ _ _ _)
   | (with_reducible exact ih3 _ _ _ _ _)
   | (with_reducible exact bosunref10_Lines.mono _ _)
   | (with_reducible exact bosunref10_content.mono _ _)
   | (with_reducible exact LeO.refl _)
   | (with_reducible exact LeO.none _)
   | (with_reducible refine LeO.ite ?_ ?_)
   | (with_reducible refine LeO.bind ?_ (fun _=>?_))
   | exact ih0 _ _ _
   | exact ih1 _ _ _ _ _
   | exact ih2 _ _ _ _ _ _
   | exact ih3 _ _ _ _ _
   | exact bosunref10_Lines.mono _ _
   | exact bosunref10_content.mono _ _
   | exact LeO.none _
   | refine LeO.ite ?_ ?_
   | refine LeO.bind ?_ (fun _=>?_)
  ·intro y0 y1 y2 y3 y4 y5
   unfold bosunref10_Cut.l2
   repeat' first
   | (with_reducible exact ih0 _ _ _)
   | (with_reducible exact ih1 _ _ _ _ _)
   | (with_reducible exact ih2 _ _ _ _ _ _)
   | (with_reducible exact ih3 _ _ _ _ _)
   | (with_reducible exact bosunref10_Lines.mono _ _)
   | (with_reducible exact bosunref10_content.mono _ _)
   | (with_reducible exact LeO.refl _)
   | (with_reducible exact LeO.none _)
   | (with_reducible refine LeO.ite ?_ ?_)
   | (with_reducible refine LeO.bind ?_ (fun _=>?_))
   | exact ih0 _ _ _
   | exact ih1 _ _ _ _ _
   | exact ih2 _ _ _ _ _ _
   | exact ih3 _ _ _ _ _
   | exact bosunref10_Lines.mono _ _
   | exact bosunref10_content.mono _ _
   | exact LeO.none _
   | refine LeO.ite ?_ ?_
   | refine LeO.bind ?_ (fun _=>?_)
  ·intro y0 y1 y2 y3 y4
   unfold bosunref10_Cut.l1
   repeat' first
   | (with_reducible exact ih0 _ _ _)
   | (with_reducible exact ih1 _ _ _ _ _)
   | (with_reducible exact ih2 _ _ _ _ _ _)
   | (with_reducible exact ih3 _ _ _ _ _)
   | (with_reducible exact bosunref10_Lines.mono _ _)
   | (with_reducible exact bosunref10_content.mono _ _)
   | (with_reducible exact LeO.refl _)
   | (with_reducible exact LeO.none _)
   | (with_reducible refine LeO.ite ?_ ?_)
   | (with_reducible refine LeO.bind ?_ (fun _=>?_))
   | exact ih0 _ _ _
   | exact ih1 _ _ _ _ _
   | exact ih2 _ _ _ _ _ _
   | exact ih3 _ _ _ _ _
   | exact bosunref10_Lines.mono _ _
   | exact bosunref10_content.mono _ _
   | exact LeO.none _
   | refine LeO.ite ?_ ?_
   | refine LeO.bind ?_ (fun _=>?_)
theorem bosunref10_Cut.mono : ∀ a0 k,LeO (bosunref10_Cut.f k a0) (bosunref10_Cut.f (k + 1) a0):=by
 intro a0 k
 obtain ⟨ih0,ih1,ih2,ih3⟩:=bosunref10_Cut.mono_l k
 unfold bosunref10_Cut.f
 repeat' first
   | (with_reducible exact ih0 _ _ _)
   | (with_reducible exact ih1 _ _ _ _ _)
   | (with_reducible exact ih2 _ _ _ _ _ _)
   | (with_reducible exact ih3 _ _ _ _ _)
   | (with_reducible exact bosunref10_Lines.mono _ _)
   | (with_reducible exact bosunref10_content.mono _ _)
   | (with_reducible exact LeO.refl _)
   | (with_reducible exact LeO.none _)
   | (with_reducible refine LeO.ite ?_ ?_)
   | (with_reducible refine LeO.bind ?_ (fun _=>?_))
   | exact ih0 _ _ _
   | exact ih1 _ _ _ _ _
   | exact ih2 _ _ _ _ _ _
   | exact ih3 _ _ _ _ _
   | exact bosunref10_Lines.mono _ _
   | exact bosunref10_content.mono _ _
   | exact LeO.none _
   | refine LeO.ite ?_ ?_
   | refine LeO.bind ?_ (fun _=>?_)
set_option maxHeartbeats 8000000 in
set_option maxRecDepth 100000 in
theorem bosunref10_Cut.calls (k : Nat) (a0 : ByteArray) (r1 : List (S31)) (r2 : Int) (r3 : Int) (w : World) (h : bosunref10_Cut.f k a0 = some (r1,r2,r3)) :
  Calls Tryd.prog 7 #[.string a0] w fun e w'=>∃ v0_ : Value,e = .returned (.tuple #[v0_,.int .i64 r2,.int .i64 r3]) ∧ Kd.R k31 31 w' w.heap.size (fun _=>True) v0_ r1 ∧ Below w.heap.size w w':=by
 have hu31:=Tryd.underlying31
 have HB:=Aside0.mk (Below.refl w.heap.size w)
 have H : (if (a0.size : Int) > 1048576 then (some (([] : List (S31)),0,2)) else ((bosunref10_Lines.f k a0).bind fun t134=>(bosunref10_Cut.l0 k ([] : List (S31)) t134 0))) = some (r1,r2,r3):=h
 clear h
 by_cases c2 : (a0.size : Int) > 1048576
 ·rw [if_pos c2] at H
  have c2b0 : decide (1048576 < (a0.size : Int)) = true:=decide_eq_true c2
  have c2b1 : decide (1048576 < a0.size) = true:=decide_eq_true (by omega)
  clear c2
  simp only [Option.some.injEq,Prod.mk.injEq] at H
  obtain ⟨rfl,rfl,rfl⟩:=H
  go_enter Tryd.func7,Tryd.ntmps7
  go_wp2
  go_ret3
  exact ⟨_,by first|rfl|(simp [errW_none,errW_some] <;> rfl)|(simp [*,errW_none,errW_some] <;> rfl),by first|exact Kd.R_nil _ _ _ _ _|exact Kd.N_nil _ _ _ _ _|exact Kd.V_nil _ _ _ _ _|exact Kd.Q_nil _ _ _ _ _|exact Kd.S_nil _ _ _ _ _,by repeat (first|(with_reducible first|exact HB.out|apply below_alloc|apply pw_below_drewN|apply below_drew1)|exact HB.out)⟩
 ·rw [if_neg c2] at H
  have c2b0 : decide (1048576 < (a0.size : Int)) = false:=decide_eq_false c2
  have c2b1 : decide (1048576 < a0.size) = false:=decide_eq_false (by omega)
  clear c2
  replace H:=Option.bind_eq_some_iff.mp H
  obtain ⟨t134,A30,H⟩:=H
  replace H : (bosunref10_Cut.l0 k ([] : List (S31)) t134 0) = some (r1,r2,r3):=H
  have A3:=Aside0.mk A30
  clear A30
  have H':=Aside0.mk H
  clear H
  go_enter Tryd.func7,Tryd.ntmps7
  go_wp2_with (first|((with_reducible refine gate_callee (f:=14) rfl ?_);refine goesL_ (some 16) rfl rfl Tryd.func14 (by kernel_rfl) rfl #[.string a0] rfl (by (try simp only [List.map_toArray,List.map_cons,List.map_nil]);first|done|rfl|(simp only [List.length_drop,List.length_take];rfl)|(simp (disch:=first|omega|(simp at *;omega)) only [u64_id,i64_id,u8_id];rfl)) ?_;(with_reducible refine (bosunref10_Lines.calls k a0 t134 _ A3.out).mono ?_);rintro e w4 ⟨v135,rfl,ho0,hb⟩;refine ⟨_,rfl,?_⟩;have n0_:=Aside0.mk (Kd.R_lower ho0 (below_size (by repeat (first|(with_reducible first|exact HB.out|apply below_alloc|apply pw_below_drewN|apply below_drew1)|exact HB.out))));have n1_:=Aside0.mk (below_step (by repeat (first|(with_reducible first|exact HB.out|apply below_alloc|apply pw_below_drewN|apply below_drew1)|exact HB.out)) hb);clear HB;have HO136:=n0_;have HB:=n1_;clear n0_ n1_;(try clear hb);(try clear hb2);(try clear hk);(try clear hi);(try clear ho0)))
  go_loopg [5,7] k (fun kq v5 v7 w'=>∃ (x5_1 : List (S31)) (x7_1 : Int),v7 = .int .i64 x7_1 ∧ Aside0 (bosunref10_Cut.l0 kq x5_1 t134 x7_1 = some (r1,r2,r3)) ∧ Aside0 (kq ≤ k) ∧ Aside0 (Kd.R k31 31 w' w.heap.size (fun _=>True) v5 x5_1) ∧ Aside0 (Kd.R Kd.string 9 w' w.heap.size (fun _=>True) v135 t134) ∧ Aside0 (Below w.heap.size w w'))
  case atStart=>exact ⟨(([] : List (S31))),(0),(by first|rfl|(simp;done)|(simp [*];done)),H',⟨Nat.le_refl _⟩,⟨by first|exact Kd.R_nil _ _ _ _ _|exact Kd.N_nil _ _ _ _ _|exact Kd.V_nil _ _ _ _ _|exact Kd.Q_nil _ _ _ _ _|exact Kd.S_nil _ _ _ _ _⟩,⟨by (with_reducible repeat (first|apply Kd.R_alloc|apply Kd.R_drewN|apply Kd.R_drew));exact HO136.out⟩,⟨by repeat (first|(with_reducible first|exact HB.out|apply below_alloc|apply pw_below_drewN|apply below_drew1)|exact HB.out)⟩⟩
  case round =>
   clear H'
   try clear c1
   try clear c2
   try clear c2b0
   try clear c2b1
   try clear p2
   obtain ⟨x5_1,x7_1,rfl,HA,HK1,HO_5,HO_6,HB⟩:=hrel
   cases gk with
   | zero=>exact absurd HA.out (by simp [bosunref10_Cut.l0])
   | succ k1 =>
    have H:=HA.out
    clear HA
    simp only [bosunref10_Cut.l0] at H
    by_cases c5 : x7_1 < (t134.length : Int)
    ·rw [if_pos c5] at H
     have c5b0 : decide (x7_1 < (t134.length : Int)) = true:=decide_eq_true c5
     clear c5
     by_cases c6 : 0 ≤ x7_1
     ·rw [if_pos c6] at H
      have c6b0 : decide (0 ≤ x7_1) = true:=decide_eq_true c6
      clear c6
      replace H:=Option.bind_eq_some_iff.mp H
      obtain ⟨⟨t138,t139⟩,A70,H⟩:=H
      replace H : (if t139 = 0 then (bosunref10_Cut.l1 k1 x5_1 t134 x7_1 t138 (t138.size : Int)) else (some (([] : List (S31)),x7_1,t139))) = some (r1,r2,r3):=H
      have A7:=Aside0.mk A70
      clear A70
      by_cases c8 : t139 = 0
      ·rw [if_pos c8] at H
       have c8b0 : (t139 == 0) = true:=beq_iff_eq.mpr c8
       have c8b1 : (t139 != 0) = false:=bne_eq_false_iff_eq.mpr c8
       clear c8
       have HC9:=Aside0.mk H
       clear H
       obtain ⟨Ao10,co10,eo10⟩:=Kd.R_slice HO_6.out
       subst eo10
       have p137 : 0 ≤ (x7_1 : Int):=of_decide_eq_true (by first|(with_reducible assumption)|assumption)
       have q137 : x7_1 < (t134.length : Int):=of_decide_eq_true (by first|(with_reducible assumption)|assumption)
       obtain ⟨ad137,e137,hx137_0⟩:=Kd.at_string (Kd.R_reads' HO_6.out).2.2 x7_1 p137 q137
       cases e137
       replace p137:=eq_true p137
       replace q137:=eq_true q137
       go_upto_block 2 with (first|((with_reducible refine gate_callee (f:=15) rfl ?_);refine goesL_ (some 28) rfl rfl Tryd.func15 (by kernel_rfl) rfl #[.string (rdOf ByteArray.empty t134 x7_1)] rfl (by (try simp only [List.map_toArray,List.map_cons,List.map_nil]);first|done|rfl|(simp only [List.length_drop,List.length_take];rfl)|(simp (disch:=first|omega|(simp at *;omega)) only [u64_id,i64_id,u8_id];rfl)) ?_;(with_reducible refine (bosunref10_content.calls k1 (rdOf ByteArray.empty t134 x7_1) t138 t139 _ A7.out).mono ?_);rintro e w' ⟨rfl,⟨nd,rfl⟩⟩;refine ⟨_,rfl,?_⟩))
       (try simp only [Act.put,List.setIfInBounds_toArray,List.set_cons_zero,List.set_cons_succ])
       go_cut [10] (fun v10 wc=>∃ (kq : Nat) (x10_8 : Int),v10 = .int .i64 x10_8 ∧ Aside0 (bosunref10_Cut.j2 kq x5_1 t134 x7_1 t138 x10_8 = some (r1,r2,r3)) ∧ Aside0 (kq ≤ k1) ∧ Aside0 (Kd.R k31 31 wc w.heap.size (fun _=>True) u5 x5_1) ∧ Aside0 (Kd.R Kd.string 9 wc w.heap.size (fun _=>True) (.slice (some ad137) t134.length co10) t134) ∧ Aside0 (Below w.heap.size w wc))
       case first =>
        have H:=HC9.out
        clear HC9
        have H':=Aside0.mk H
        clear H
        go_wp2
        go_loopg [10] k1 (fun kq v10 w'=>∃ (x10_2 : Int),v10 = .int .i64 x10_2 ∧ Aside0 (bosunref10_Cut.l1 kq x5_1 t134 x7_1 t138 x10_2 = some (r1,r2,r3)) ∧ Aside0 (kq ≤ k1) ∧ Aside0 (Kd.R k31 31 w' w.heap.size (fun _=>True) u5 x5_1) ∧ Aside0 (Kd.R Kd.string 9 w' w.heap.size (fun _=>True) (.slice (some ad137) t134.length co10) t134) ∧ Aside0 (Below w.heap.size w w'))
        case atStart=>exact ⟨((t138.size : Int)),(by first|rfl|(simp;done)|(simp [*];done)),H',⟨Nat.le_refl _⟩,⟨by (with_reducible repeat (first|apply Kd.R_alloc|apply Kd.R_drewN|apply Kd.R_drew));exact HO_5.out⟩,⟨by (with_reducible repeat (first|apply Kd.R_alloc|apply Kd.R_drewN|apply Kd.R_drew));exact HO_6.out⟩,⟨by repeat (first|(with_reducible first|exact HB.out|apply below_alloc|apply pw_below_drewN|apply below_drew1)|exact HB.out)⟩⟩
        case round =>
         clear H'
         try clear c1
         try clear p1
         try clear q1
         try clear hx1
         try clear c2
         try clear c2b0
         try clear c2b1
         try clear p2
         try clear c5
         try clear c5b0
         try clear c6
         try clear c6b0
         try clear c7
         try clear c8
         try clear c8b0
         try clear c8b1
         try clear hx137_0
         try clear p137
         try clear p2
         try clear q137
         obtain ⟨x10_2,rfl,HA,HK2,HO_5,HO_6,HB⟩:=hrel
         cases gk with
         | zero=>exact absurd HA.out (by simp [bosunref10_Cut.l1])
         | succ k2 =>
          have H:=HA.out
          clear HA
          simp only [bosunref10_Cut.l1] at H
          by_cases c11 : x10_2 > 0
          ·rw [if_pos c11] at H
           have c11b0 : decide (0 < x10_2) = true:=decide_eq_true c11
           clear c11
           (first|rw [c11b0]|(simp only [i64_w,i32_w];rw [c11b0])|skip)
           obtain ⟨ji12,hji12⟩ : ∃ j_ : Int,(wrap64 (x10_2 - 1)) = j_:=⟨_,rfl⟩
           replace H : (if 0 ≤ (ji12) then (if (ji12) < (t138.size : Int) then (if (bt t138 (ji12)) = 32 then (bosunref10_Cut.l1 k2 x5_1 t134 x7_1 t138 ji12) else (bosunref10_Cut.j2 k2 x5_1 t134 x7_1 t138 x10_2)) else (none)) else (none)) = some (r1,r2,r3):=by first|(rw [hji12] at H;exact H)|(simp only [hji12] at H ⊢;exact H)
           have hji12w : (IntKind.i64.wrap (x10_2 - 1)) = ji12:=(i64_w _).trans hji12
           by_cases c13 : 0 ≤ (ji12)
           ·rw [if_pos c13] at H
            have c13b0 : decide (0 ≤ (ji12)) = true:=decide_eq_true c13
            clear c13
            by_cases c14 : (ji12) < (t138.size : Int)
            ·rw [if_pos c14] at H
             have c14b0 : decide ((ji12) < (t138.size : Int)) = true:=decide_eq_true c14
             clear c14
             by_cases c16 : (bt t138 (ji12)) = 32
             ·rw [if_pos c16] at H
              have c16b0 : ((bt t138 (ji12)) == 32) = true:=beq_iff_eq.mpr c16
              have c16b1 : ((bt t138 (ji12)) != 32) = false:=bne_eq_false_iff_eq.mpr c16
              clear c16
              have H':=Aside0.mk H
              clear H
              have p15 : 0 ≤ ((ji12) : Int):=of_decide_eq_true (by first|(with_reducible assumption)|assumption)
              have q15 : (ji12) < (t138.size : Int):=of_decide_eq_true (by first|(with_reducible assumption)|assumption)
              have hx15:=bt_at t138 (ji12)
              replace p15:=eq_true p15
              replace q15:=eq_true q15
              go_wp2
              go_roundg k2
              case measure=>have:=HK1.out;have:=HK2.out;omega
              case rel=>exact ⟨(ji12),(by first|rfl|(simp;done)|(simp only [← hji12] <;> (first|rfl|simp))|(simp [*];done)),H',⟨by have:=HK1.out;have:=HK2.out;omega⟩,⟨by (with_reducible repeat (first|apply Kd.R_alloc|apply Kd.R_drewN|apply Kd.R_drew));exact HO_5.out⟩,⟨by (with_reducible repeat (first|apply Kd.R_alloc|apply Kd.R_drewN|apply Kd.R_drew));exact HO_6.out⟩,⟨by repeat (first|(with_reducible first|exact HB.out|apply below_alloc|apply pw_below_drewN|apply below_drew1)|exact HB.out)⟩⟩
             ·rw [if_neg c16] at H
              have c16b0 : ((bt t138 (ji12)) == 32) = false:=beq_eq_false_iff_ne.mpr c16
              have c16b1 : ((bt t138 (ji12)) != 32) = true:=bne_iff_ne.mpr c16
              have H':=Aside0.mk H
              clear H
              have p15 : 0 ≤ ((ji12) : Int):=of_decide_eq_true (by first|(with_reducible assumption)|assumption)
              have q15 : (ji12) < (t138.size : Int):=of_decide_eq_true (by first|(with_reducible assumption)|assumption)
              have hx15:=bt_at t138 (ji12)
              replace p15:=eq_true p15
              replace q15:=eq_true q15
              go_wp2
              go_meet
              case rel=>exact ⟨_,(x10_2),(by first|rfl|(simp;done)|(simp [*];done)),H',⟨by have:=HK1.out;have:=HK2.out;first|omega|exact Nat.le_refl _⟩,⟨by (with_reducible repeat (first|apply Kd.R_alloc|apply Kd.R_drewN|apply Kd.R_drew));exact HO_5.out⟩,⟨by (with_reducible repeat (first|apply Kd.R_alloc|apply Kd.R_drewN|apply Kd.R_drew));exact HO_6.out⟩,⟨by repeat (first|(with_reducible first|exact HB.out|apply below_alloc|apply pw_below_drewN|apply below_drew1)|exact HB.out)⟩⟩
            ·rw [if_neg c14] at H
             exact absurd H (by simp)
           ·rw [if_neg c13] at H
            exact absurd H (by simp)
          ·rw [if_neg c11] at H
           have c11b0 : decide (0 < x10_2) = false:=decide_eq_false c11
           clear c11
           (first|rw [c11b0]|(simp only [i64_w,i32_w];rw [c11b0])|skip)
           have H':=Aside0.mk H
           clear H
           go_wp2
           go_meet
           case rel=>exact ⟨_,(x10_2),(by first|rfl|(simp;done)|(simp [*];done)),H',⟨by have:=HK1.out;have:=HK2.out;first|omega|exact Nat.le_refl _⟩,⟨by (with_reducible repeat (first|apply Kd.R_alloc|apply Kd.R_drewN|apply Kd.R_drew));exact HO_5.out⟩,⟨by (with_reducible repeat (first|apply Kd.R_alloc|apply Kd.R_drewN|apply Kd.R_drew));exact HO_6.out⟩,⟨by repeat (first|(with_reducible first|exact HB.out|apply below_alloc|apply pw_below_drewN|apply below_drew1)|exact HB.out)⟩⟩
       case rest =>
        clear HC9
        try clear c1
        try clear p1
        try clear q1
        try clear hx1
        try clear c2
        try clear c2b0
        try clear c2b1
        try clear p2
        try clear c5
        try clear c5b0
        try clear c6
        try clear c6b0
        try clear p6
        try clear c7
        try clear c8
        try clear c8b0
        try clear c8b1
        try clear c11
        try clear c11b0
        try clear c13
        try clear c13b0
        try clear p13
        try clear q13
        try clear hx13
        try clear c14
        try clear c14b0
        try clear c15
        try clear p15
        try clear q15
        try clear hx15
        try clear c16
        try clear c16b0
        try clear c16b1
        try clear hx137_0
        try clear p1
        try clear p137
        try clear p15
        try clear p2
        try clear q1
        try clear q137
        try clear q15
        obtain ⟨kq,x10_8,rfl,HA,HJ8,HO_5,HO_6,HB⟩:=hcut
        cases kq with
        | zero=>exact absurd HA.out (by simp [bosunref10_Cut.j2])
        | succ kj8 =>
         have H:=HA.out
         clear HA
         simp only [bosunref10_Cut.j2] at H
         have H':=Aside0.mk H
         clear H
         go_wp2
         go_loopg [5,11] kj8 (fun kq v5 v11 w'=>∃ (x5_3 : List (S31)) (x11_3 : Int),v11 = .int .i64 x11_3 ∧ Aside0 (bosunref10_Cut.l2 kq x5_3 t134 x7_1 t138 x10_8 x11_3 = some (r1,r2,r3)) ∧ Aside0 (kq ≤ kj8) ∧ Aside0 (Kd.R k31 31 w' w.heap.size (fun _=>True) v5 x5_3) ∧ Aside0 (Kd.R Kd.string 9 w' w.heap.size (fun _=>True) (.slice (some ad137) t134.length co10) t134) ∧ Aside0 (Below w.heap.size w w'))
         case atStart=>exact ⟨(x5_1),(0),(by first|rfl|(simp;done)|(simp [*];done)),H',⟨Nat.le_refl _⟩,⟨by (with_reducible repeat (first|apply Kd.R_alloc|apply Kd.R_drewN|apply Kd.R_drew));exact HO_5.out⟩,⟨by (with_reducible repeat (first|apply Kd.R_alloc|apply Kd.R_drewN|apply Kd.R_drew));exact HO_6.out⟩,⟨by repeat (first|(with_reducible first|exact HB.out|apply below_alloc|apply pw_below_drewN|apply below_drew1)|exact HB.out)⟩⟩
         case round =>
          clear H'
          try clear c1
          try clear p1
          try clear q1
          try clear hx1
          try clear c2
          try clear c2b0
          try clear c2b1
          try clear p2
          try clear c5
          try clear c5b0
          try clear c6
          try clear c6b0
          try clear p6
          try clear c7
          try clear c8
          try clear c8b0
          try clear c8b1
          try clear c11
          try clear c11b0
          try clear c13
          try clear c13b0
          try clear p13
          try clear q13
          try clear hx13
          try clear c14
          try clear c14b0
          try clear c15
          try clear p15
          try clear q15
          try clear hx15
          try clear c16
          try clear c16b0
          try clear c16b1
          try clear hx137_0
          try clear p1
          try clear p13
          try clear p137
          try clear p15
          try clear p2
          try clear p6
          try clear q1
          try clear q13
          try clear q137
          try clear q15
          obtain ⟨x5_3,x11_3,rfl,HA,HK3,HO_5,HO_6,HB⟩:=hrel
          cases gk with
          | zero=>exact absurd HA.out (by simp [bosunref10_Cut.l2])
          | succ k3 =>
           have H:=HA.out
           clear HA
           simp only [bosunref10_Cut.l2] at H
           by_cases c17 : x11_3 < x10_8
           ·rw [if_pos c17] at H
            have c17b0 : decide (x11_3 < x10_8) = true:=decide_eq_true c17
            clear c17
            by_cases c18 : 0 ≤ x11_3
            ·rw [if_pos c18] at H
             have c18b0 : decide (0 ≤ x11_3) = true:=decide_eq_true c18
             clear c18
             by_cases c19 : x11_3 < (t138.size : Int)
             ·rw [if_pos c19] at H
              have c19b0 : decide (x11_3 < (t138.size : Int)) = true:=decide_eq_true c19
              clear c19
              by_cases c21 : (bt t138 x11_3) = 32
              ·rw [if_pos c21] at H
               have c21b0 : ((bt t138 x11_3) == 32) = true:=beq_iff_eq.mpr c21
               have c21b1 : ((bt t138 x11_3) != 32) = false:=bne_eq_false_iff_eq.mpr c21
               clear c21
               have H':=Aside0.mk H
               clear H
               have p20 : 0 ≤ (x11_3 : Int):=of_decide_eq_true (by first|(with_reducible assumption)|assumption)
               have q20 : x11_3 < (t138.size : Int):=of_decide_eq_true (by first|(with_reducible assumption)|assumption)
               have hx20:=bt_at t138 x11_3
               replace p20:=eq_true p20
               replace q20:=eq_true q20
               go_wp2
               go_roundg k3
               case measure=>have:=HK1.out;have:=HJ8.out;have:=HK3.out;omega
               case rel=>exact ⟨(x5_3),(wrap64 (x11_3 + 1)),(by first|rfl|(simp;done)|(simp [*];done)),H',⟨by have:=HK1.out;have:=HJ8.out;have:=HK3.out;omega⟩,⟨by (with_reducible repeat (first|apply Kd.R_alloc|apply Kd.R_drewN|apply Kd.R_drew));exact HO_5.out⟩,⟨by (with_reducible repeat (first|apply Kd.R_alloc|apply Kd.R_drewN|apply Kd.R_drew));exact HO_6.out⟩,⟨by repeat (first|(with_reducible first|exact HB.out|apply below_alloc|apply pw_below_drewN|apply below_drew1)|exact HB.out)⟩⟩
              ·rw [if_neg c21] at H
               have c21b0 : ((bt t138 x11_3) == 32) = false:=beq_eq_false_iff_ne.mpr c21
               have c21b1 : ((bt t138 x11_3) != 32) = true:=bne_iff_ne.mpr c21
               by_cases c23 : (bt t138 x11_3) = 45
               ·rw [if_pos c23] at H
                have c23b0 : ((bt t138 x11_3) == 45) = true:=beq_iff_eq.mpr c23
                have c23b1 : ((bt t138 x11_3) != 45) = false:=bne_eq_false_iff_eq.mpr c23
                clear c23
                by_cases c24 : (wrap64 (x11_3 + 1)) = x10_8
                ·rw [if_pos c24] at H
                 have c24b0 : ((wrap64 (x11_3 + 1)) == x10_8) = true:=beq_iff_eq.mpr c24
                 have c24b1 : ((wrap64 (x11_3 + 1)) != x10_8) = false:=bne_eq_false_iff_eq.mpr c24
                 clear c24
                 by_cases c25 : x5_3.length < 3518437208883
                 ·rw [if_pos c25] at H
                  have LMc25:=Aside0.mk c25
                  clear c25
                  obtain ⟨y140,hy140⟩ : ∃ y_ : List (S31),y_ = (x5_3 ++ [(⟨x7_1,x11_3,true,(⟨#[]⟩ : ByteArray)⟩ : S31)]):=⟨_,rfl⟩
                  replace H : (bosunref10_Cut.l2 k3 y140 t134 x7_1 t138 x10_8 (wrap64 (x11_3 + 1))) = some (r1,r2,r3):=by first|(rw [hy140];with_reducible exact H)|(have H2_:=(Option.bind_some _ _).symm.trans H;rw [hy140];with_reducible exact H2_)|(have H2_:=(Option.bind_some _ _).symm.trans H;with_reducible exact H2_)|with_reducible exact H|(rw [hy140];exact H)|exact H
                  have Ny140:=Aside0.mk hy140
                  clear hy140
                  have H':=Aside0.mk H
                  clear H
                  have p20 : 0 ≤ (x11_3 : Int):=of_decide_eq_true (by first|(with_reducible assumption)|assumption)
                  have q20 : x11_3 < (t138.size : Int):=of_decide_eq_true (by first|(with_reducible assumption)|assumption)
                  have hx20:=bt_at t138 x11_3
                  replace p20:=eq_true p20
                  replace q20:=eq_true q20
                  have p22 : 0 ≤ (x11_3 : Int):=of_decide_eq_true (by first|(with_reducible assumption)|assumption)
                  have q22 : x11_3 < (t138.size : Int):=of_decide_eq_true (by first|(with_reducible assumption)|assumption)
                  have hx22:=bt_at t138 x11_3
                  replace p22:=eq_true p22
                  replace q22:=eq_true q22
                  go_wp2_with (first|((with_reducible refine gate_builtin (b:=.append) (xs:=#[.tmp 74,.tmp 78]) rfl ?_);at_builtin;refine Kd.R_append k31 (w0:=w) w.heap.size rfl (.tmp 74) (.tmp 78) 27 31 (.agg #[(.int .i64 0),(.int .i64 0),(.bool false),(.string ⟨#[]⟩)]) 40 rfl Tryd.underlying27 info31 rfl (by decide) (by omega) u5 x5_3 (⟨x7_1,x11_3,true,(⟨#[]⟩ : ByteArray)⟩ : S31) [.int .i64 x7_1,.int .i64 x11_3,.bool true,.string (⟨#[]⟩ : ByteArray)] (fun _=>True) (fun _=>False) rfl rfl ?aP (fun _ hk=>hk.elim) ?aF ?aO ?aB ?aS ?aL ?_;(case aP=>exact k31_mkM _ _ _ (⟨x7_1,x11_3,true,(⟨#[]⟩ : ByteArray)⟩ : S31));(case aB=>exact (by repeat (first|(with_reducible first|exact HB.out|apply below_alloc|apply pw_below_drewN|apply below_drew1)|exact HB.out)));(case aF=>exact (fun _ _=>trivial));(case aO=>exact (by (with_reducible repeat (first|apply Kd.R_alloc|apply Kd.R_drewN|apply Kd.R_drew));exact HO_5.out));(case aS=>exact (below_size (by repeat (first|(with_reducible first|exact HB.out|apply below_alloc|apply pw_below_drewN|apply below_drew1)|exact HB.out))));(case aL=>have:=LMc25.out;omega);intro v141 w26 ho hb hg hat;rw [← Ny140.out] at ho;have n0_:=Aside0.mk (Kd.R_over' (by (with_reducible repeat (first|apply Kd.R_alloc|apply Kd.R_drewN|apply Kd.R_drew));exact HO_6.out) (Kd.R_typed (by (with_reducible repeat (first|apply Kd.R_alloc|apply Kd.R_drewN|apply Kd.R_drew));exact HO_5.out)) (by decide) hg);have n1_:=Aside0.mk (hb);have n2_:=Aside0.mk (ho);clear HO_6;clear HB;clear HO_5;have HO_6:=n0_;have HB:=n1_;have HO142:=n2_;clear n0_ n1_ n2_;clear ho hb hg hat))
                  go_roundg k3
                  case measure=>have:=HK1.out;have:=HJ8.out;have:=HK3.out;omega
                  case rel=>exact ⟨(y140),(wrap64 (x11_3 + 1)),(by first|rfl|(simp;done)|(simp [*];done)),H',⟨by have:=HK1.out;have:=HJ8.out;have:=HK3.out;omega⟩,⟨by (with_reducible repeat (first|apply Kd.R_alloc|apply Kd.R_drewN|apply Kd.R_drew));exact HO142.out⟩,⟨by (with_reducible repeat (first|apply Kd.R_alloc|apply Kd.R_drewN|apply Kd.R_drew));exact HO_6.out⟩,⟨by repeat (first|(with_reducible first|exact HB.out|apply below_alloc|apply pw_below_drewN|apply below_drew1)|exact HB.out)⟩⟩
                 ·rw [if_neg c25] at H
                  exact absurd H (by simp)
                ·rw [if_neg c24] at H
                 have c24b0 : ((wrap64 (x11_3 + 1)) == x10_8) = false:=beq_eq_false_iff_ne.mpr c24
                 have c24b1 : ((wrap64 (x11_3 + 1)) != x10_8) = true:=bne_iff_ne.mpr c24
                 obtain ⟨ji27,hji27⟩ : ∃ j_ : Int,(wrap64 (x11_3 + 1)) = j_:=⟨_,rfl⟩
                 replace H : (if 0 ≤ (ji27) then (if (ji27) < (t138.size : Int) then (if (bt t138 (ji27)) = 32 then (if x5_3.length < 3518437208883 then (bosunref10_Cut.l2 k3 (x5_3 ++ [(⟨x7_1,x11_3,true,(⟨#[]⟩ : ByteArray)⟩ : S31)]) t134 x7_1 t138 x10_8 ji27) else (none)) else (if x11_3 ≤ x10_8 then (if x10_8 ≤ (t138.size : Int) then (if x5_3.length < 3518437208883 then (bosunref10_Cut.l2 k3 (x5_3 ++ [(⟨x7_1,x11_3,false,t138.extract (x11_3 : Int).toNat (x10_8 : Int).toNat⟩ : S31)]) t134 x7_1 t138 x10_8 x10_8) else (none)) else (none)) else (none))) else (none)) else (none)) = some (r1,r2,r3):=by first|(rw [hji27] at H;exact H)|(simp only [hji27] at H ⊢;exact H)
                 (try rw [hji27] at c24b0)
                 (try rw [hji27] at c24b1)
                 have hji27w : (IntKind.i64.wrap (x11_3 + 1)) = ji27:=(i64_w _).trans hji27
                 by_cases c28 : 0 ≤ (ji27)
                 ·rw [if_pos c28] at H
                  have c28b0 : decide (0 ≤ (ji27)) = true:=decide_eq_true c28
                  clear c28
                  by_cases c29 : (ji27) < (t138.size : Int)
                  ·rw [if_pos c29] at H
                   have c29b0 : decide ((ji27) < (t138.size : Int)) = true:=decide_eq_true c29
                   clear c29
                   by_cases c31 : (bt t138 (ji27)) = 32
                   ·rw [if_pos c31] at H
                    have c31b0 : ((bt t138 (ji27)) == 32) = true:=beq_iff_eq.mpr c31
                    have c31b1 : ((bt t138 (ji27)) != 32) = false:=bne_eq_false_iff_eq.mpr c31
                    clear c31
                    by_cases c32 : x5_3.length < 3518437208883
                    ·rw [if_pos c32] at H
                     have LMc32:=Aside0.mk c32
                     clear c32
                     obtain ⟨y143,hy143⟩ : ∃ y_ : List (S31),y_ = (x5_3 ++ [(⟨x7_1,x11_3,true,(⟨#[]⟩ : ByteArray)⟩ : S31)]):=⟨_,rfl⟩
                     replace H : (bosunref10_Cut.l2 k3 y143 t134 x7_1 t138 x10_8 ji27) = some (r1,r2,r3):=by first|(rw [hy143];with_reducible exact H)|(have H2_:=(Option.bind_some _ _).symm.trans H;rw [hy143];with_reducible exact H2_)|(have H2_:=(Option.bind_some _ _).symm.trans H;with_reducible exact H2_)|with_reducible exact H|(rw [hy143];exact H)|exact H
                     have Ny143:=Aside0.mk hy143
                     clear hy143
                     have H':=Aside0.mk H
                     clear H
                     have p20 : 0 ≤ (x11_3 : Int):=of_decide_eq_true (by first|(with_reducible assumption)|assumption)
                     have q20 : x11_3 < (t138.size : Int):=of_decide_eq_true (by first|(with_reducible assumption)|assumption)
                     have hx20:=bt_at t138 x11_3
                     replace p20:=eq_true p20
                     replace q20:=eq_true q20
                     have p22 : 0 ≤ (x11_3 : Int):=of_decide_eq_true (by first|(with_reducible assumption)|assumption)
                     have q22 : x11_3 < (t138.size : Int):=of_decide_eq_true (by first|(with_reducible assumption)|assumption)
                     have hx22:=bt_at t138 x11_3
                     replace p22:=eq_true p22
                     replace q22:=eq_true q22
                     have p30 : 0 ≤ ((ji27) : Int):=of_decide_eq_true (by first|(with_reducible assumption)|assumption)
                     have q30 : (ji27) < (t138.size : Int):=of_decide_eq_true (by first|(with_reducible assumption)|assumption)
                     have hx30:=bt_at t138 (ji27)
                     replace p30:=eq_true p30
                     replace q30:=eq_true q30
                     go_wp2_with (first|((with_reducible refine gate_builtin (b:=.append) (xs:=#[.tmp 74,.tmp 78]) rfl ?_);at_builtin;refine Kd.R_append k31 (w0:=w) w.heap.size rfl (.tmp 74) (.tmp 78) 27 31 (.agg #[(.int .i64 0),(.int .i64 0),(.bool false),(.string ⟨#[]⟩)]) 40 rfl Tryd.underlying27 info31 rfl (by decide) (by omega) u5 x5_3 (⟨x7_1,x11_3,true,(⟨#[]⟩ : ByteArray)⟩ : S31) [.int .i64 x7_1,.int .i64 x11_3,.bool true,.string (⟨#[]⟩ : ByteArray)] (fun _=>True) (fun _=>False) rfl rfl ?aP (fun _ hk=>hk.elim) ?aF ?aO ?aB ?aS ?aL ?_;(case aP=>exact k31_mkM _ _ _ (⟨x7_1,x11_3,true,(⟨#[]⟩ : ByteArray)⟩ : S31));(case aB=>exact (by repeat (first|(with_reducible first|exact HB.out|apply below_alloc|apply pw_below_drewN|apply below_drew1)|exact HB.out)));(case aF=>exact (fun _ _=>trivial));(case aO=>exact (by (with_reducible repeat (first|apply Kd.R_alloc|apply Kd.R_drewN|apply Kd.R_drew));exact HO_5.out));(case aS=>exact (below_size (by repeat (first|(with_reducible first|exact HB.out|apply below_alloc|apply pw_below_drewN|apply below_drew1)|exact HB.out))));(case aL=>have:=LMc32.out;omega);intro v144 w33 ho hb hg hat;rw [← Ny143.out] at ho;have n0_:=Aside0.mk (Kd.R_over' (by (with_reducible repeat (first|apply Kd.R_alloc|apply Kd.R_drewN|apply Kd.R_drew));exact HO_6.out) (Kd.R_typed (by (with_reducible repeat (first|apply Kd.R_alloc|apply Kd.R_drewN|apply Kd.R_drew));exact HO_5.out)) (by decide) hg);have n1_:=Aside0.mk (hb);have n2_:=Aside0.mk (ho);clear HO_6;clear HB;clear HO_5;have HO_6:=n0_;have HB:=n1_;have HO145:=n2_;clear n0_ n1_ n2_;clear ho hb hg hat))
                     go_roundg k3
                     case measure=>have:=HK1.out;have:=HJ8.out;have:=HK3.out;omega
                     case rel=>exact ⟨(y143),(ji27),(by first|rfl|(simp;done)|(simp only [← hji27] <;> (first|rfl|simp))|(simp [*];done)),H',⟨by have:=HK1.out;have:=HJ8.out;have:=HK3.out;omega⟩,⟨by (with_reducible repeat (first|apply Kd.R_alloc|apply Kd.R_drewN|apply Kd.R_drew));exact HO145.out⟩,⟨by (with_reducible repeat (first|apply Kd.R_alloc|apply Kd.R_drewN|apply Kd.R_drew));exact HO_6.out⟩,⟨by repeat (first|(with_reducible first|exact HB.out|apply below_alloc|apply pw_below_drewN|apply below_drew1)|exact HB.out)⟩⟩
                    ·rw [if_neg c32] at H
                     exact absurd H (by simp)
                   ·rw [if_neg c31] at H
                    have c31b0 : ((bt t138 (ji27)) == 32) = false:=beq_eq_false_iff_ne.mpr c31
                    have c31b1 : ((bt t138 (ji27)) != 32) = true:=bne_iff_ne.mpr c31
                    have c34b0:=eq_true (of_decide_eq_true (by first|(with_reducible assumption)|assumption) : 0 ≤ x11_3)
                    by_cases c35 : x11_3 ≤ x10_8
                    ·rw [if_pos c35] at H
                     have c35b0:=eq_true c35
                     have c35b1 : decide (x11_3 ≤ x10_8) = true:=decide_eq_true c35
                     clear c35
                     by_cases c36 : x10_8 ≤ (t138.size : Int)
                     ·rw [if_pos c36] at H
                      have c36b0:=eq_true c36
                      have c36b1 : decide (x10_8 ≤ (t138.size : Int)) = true:=decide_eq_true c36
                      clear c36
                      by_cases c37 : x5_3.length < 3518437208883
                      ·rw [if_pos c37] at H
                       have LMc37:=Aside0.mk c37
                       clear c37
                       obtain ⟨y146,hy146⟩ : ∃ y_ : List (S31),y_ = (x5_3 ++ [(⟨x7_1,x11_3,false,t138.extract (x11_3 : Int).toNat (x10_8 : Int).toNat⟩ : S31)]):=⟨_,rfl⟩
                       replace H : (bosunref10_Cut.l2 k3 y146 t134 x7_1 t138 x10_8 x10_8) = some (r1,r2,r3):=by first|(rw [hy146];with_reducible exact H)|(have H2_:=(Option.bind_some _ _).symm.trans H;rw [hy146];with_reducible exact H2_)|(have H2_:=(Option.bind_some _ _).symm.trans H;with_reducible exact H2_)|with_reducible exact H|(rw [hy146];exact H)|exact H
                       have Ny146:=Aside0.mk hy146
                       clear hy146
                       have H':=Aside0.mk H
                       clear H
                       have p20 : 0 ≤ (x11_3 : Int):=of_decide_eq_true (by first|(with_reducible assumption)|assumption)
                       have q20 : x11_3 < (t138.size : Int):=of_decide_eq_true (by first|(with_reducible assumption)|assumption)
                       have hx20:=bt_at t138 x11_3
                       replace p20:=eq_true p20
                       replace q20:=eq_true q20
                       have p22 : 0 ≤ (x11_3 : Int):=of_decide_eq_true (by first|(with_reducible assumption)|assumption)
                       have q22 : x11_3 < (t138.size : Int):=of_decide_eq_true (by first|(with_reducible assumption)|assumption)
                       have hx22:=bt_at t138 x11_3
                       replace p22:=eq_true p22
                       replace q22:=eq_true q22
                       have p30 : 0 ≤ ((ji27) : Int):=of_decide_eq_true (by first|(with_reducible assumption)|assumption)
                       have q30 : (ji27) < (t138.size : Int):=of_decide_eq_true (by first|(with_reducible assumption)|assumption)
                       have hx30:=bt_at t138 (ji27)
                       replace p30:=eq_true p30
                       replace q30:=eq_true q30
                       go_wp2_with (first|((with_reducible refine gate_builtin (b:=.append) (xs:=#[.tmp 82,.tmp 90]) rfl ?_);at_builtin;refine Kd.R_append k31 (w0:=w) w.heap.size rfl (.tmp 82) (.tmp 90) 27 31 (.agg #[(.int .i64 0),(.int .i64 0),(.bool false),(.string ⟨#[]⟩)]) 40 rfl Tryd.underlying27 info31 rfl (by decide) (by omega) u5 x5_3 (⟨x7_1,x11_3,false,t138.extract (x11_3 : Int).toNat (x10_8 : Int).toNat⟩ : S31) [.int .i64 x7_1,.int .i64 x11_3,.bool false,.string (t138.extract (x11_3 : Int).toNat (x10_8 : Int).toNat)] (fun _=>True) (fun _=>False) rfl rfl ?aP (fun _ hk=>hk.elim) ?aF ?aO ?aB ?aS ?aL ?_;(case aP=>exact k31_mkM _ _ _ (⟨x7_1,x11_3,false,t138.extract (x11_3 : Int).toNat (x10_8 : Int).toNat⟩ : S31));(case aB=>exact (by repeat (first|(with_reducible first|exact HB.out|apply below_alloc|apply pw_below_drewN|apply below_drew1)|exact HB.out)));(case aF=>exact (fun _ _=>trivial));(case aO=>exact (by (with_reducible repeat (first|apply Kd.R_alloc|apply Kd.R_drewN|apply Kd.R_drew));exact HO_5.out));(case aS=>exact (below_size (by repeat (first|(with_reducible first|exact HB.out|apply below_alloc|apply pw_below_drewN|apply below_drew1)|exact HB.out))));(case aL=>have:=LMc37.out;omega);intro v147 w38 ho hb hg hat;rw [← Ny146.out] at ho;have n0_:=Aside0.mk (Kd.R_over' (by (with_reducible repeat (first|apply Kd.R_alloc|apply Kd.R_drewN|apply Kd.R_drew));exact HO_6.out) (Kd.R_typed (by (with_reducible repeat (first|apply Kd.R_alloc|apply Kd.R_drewN|apply Kd.R_drew));exact HO_5.out)) (by decide) hg);have n1_:=Aside0.mk (hb);have n2_:=Aside0.mk (ho);clear HO_6;clear HB;clear HO_5;have HO_6:=n0_;have HB:=n1_;have HO148:=n2_;clear n0_ n1_ n2_;clear ho hb hg hat))
                       go_roundg k3
                       case measure=>have:=HK1.out;have:=HJ8.out;have:=HK3.out;omega
                       case rel=>exact ⟨(y146),(x10_8),(by first|rfl|(simp;done)|(simp [*];done)),H',⟨by have:=HK1.out;have:=HJ8.out;have:=HK3.out;omega⟩,⟨by (with_reducible repeat (first|apply Kd.R_alloc|apply Kd.R_drewN|apply Kd.R_drew));exact HO148.out⟩,⟨by (with_reducible repeat (first|apply Kd.R_alloc|apply Kd.R_drewN|apply Kd.R_drew));exact HO_6.out⟩,⟨by repeat (first|(with_reducible first|exact HB.out|apply below_alloc|apply pw_below_drewN|apply below_drew1)|exact HB.out)⟩⟩
                      ·rw [if_neg c37] at H
                       exact absurd H (by simp)
                     ·rw [if_neg c36] at H
                      exact absurd H (by simp)
                    ·rw [if_neg c35] at H
                     exact absurd H (by simp)
                  ·rw [if_neg c29] at H
                   exact absurd H (by simp)
                 ·rw [if_neg c28] at H
                  exact absurd H (by simp)
               ·rw [if_neg c23] at H
                have c23b0 : ((bt t138 x11_3) == 45) = false:=beq_eq_false_iff_ne.mpr c23
                have c23b1 : ((bt t138 x11_3) != 45) = true:=bne_iff_ne.mpr c23
                have c39b0:=eq_true (of_decide_eq_true (by first|(with_reducible assumption)|assumption) : 0 ≤ x11_3)
                by_cases c40 : x11_3 ≤ x10_8
                ·rw [if_pos c40] at H
                 have c40b0:=eq_true c40
                 have c40b1 : decide (x11_3 ≤ x10_8) = true:=decide_eq_true c40
                 clear c40
                 by_cases c41 : x10_8 ≤ (t138.size : Int)
                 ·rw [if_pos c41] at H
                  have c41b0:=eq_true c41
                  have c41b1 : decide (x10_8 ≤ (t138.size : Int)) = true:=decide_eq_true c41
                  clear c41
                  by_cases c42 : x5_3.length < 3518437208883
                  ·rw [if_pos c42] at H
                   have LMc42:=Aside0.mk c42
                   clear c42
                   obtain ⟨y149,hy149⟩ : ∃ y_ : List (S31),y_ = (x5_3 ++ [(⟨x7_1,x11_3,false,t138.extract (x11_3 : Int).toNat (x10_8 : Int).toNat⟩ : S31)]):=⟨_,rfl⟩
                   replace H : (bosunref10_Cut.l2 k3 y149 t134 x7_1 t138 x10_8 x10_8) = some (r1,r2,r3):=by first|(rw [hy149];with_reducible exact H)|(have H2_:=(Option.bind_some _ _).symm.trans H;rw [hy149];with_reducible exact H2_)|(have H2_:=(Option.bind_some _ _).symm.trans H;with_reducible exact H2_)|with_reducible exact H|(rw [hy149];exact H)|exact H
                   have Ny149:=Aside0.mk hy149
                   clear hy149
                   have H':=Aside0.mk H
                   clear H
                   have p20 : 0 ≤ (x11_3 : Int):=of_decide_eq_true (by first|(with_reducible assumption)|assumption)
                   have q20 : x11_3 < (t138.size : Int):=of_decide_eq_true (by first|(with_reducible assumption)|assumption)
                   have hx20:=bt_at t138 x11_3
                   replace p20:=eq_true p20
                   replace q20:=eq_true q20
                   have p22 : 0 ≤ (x11_3 : Int):=of_decide_eq_true (by first|(with_reducible assumption)|assumption)
                   have q22 : x11_3 < (t138.size : Int):=of_decide_eq_true (by first|(with_reducible assumption)|assumption)
                   have hx22:=bt_at t138 x11_3
                   replace p22:=eq_true p22
                   replace q22:=eq_true q22
                   go_wp2_with (first|((with_reducible refine gate_builtin (b:=.append) (xs:=#[.tmp 82,.tmp 90]) rfl ?_);at_builtin;refine Kd.R_append k31 (w0:=w) w.heap.size rfl (.tmp 82) (.tmp 90) 27 31 (.agg #[(.int .i64 0),(.int .i64 0),(.bool false),(.string ⟨#[]⟩)]) 40 rfl Tryd.underlying27 info31 rfl (by decide) (by omega) u5 x5_3 (⟨x7_1,x11_3,false,t138.extract (x11_3 : Int).toNat (x10_8 : Int).toNat⟩ : S31) [.int .i64 x7_1,.int .i64 x11_3,.bool false,.string (t138.extract (x11_3 : Int).toNat (x10_8 : Int).toNat)] (fun _=>True) (fun _=>False) rfl rfl ?aP (fun _ hk=>hk.elim) ?aF ?aO ?aB ?aS ?aL ?_;(case aP=>exact k31_mkM _ _ _ (⟨x7_1,x11_3,false,t138.extract (x11_3 : Int).toNat (x10_8 : Int).toNat⟩ : S31));(case aB=>exact (by repeat (first|(with_reducible first|exact HB.out|apply below_alloc|apply pw_below_drewN|apply below_drew1)|exact HB.out)));(case aF=>exact (fun _ _=>trivial));(case aO=>exact (by (with_reducible repeat (first|apply Kd.R_alloc|apply Kd.R_drewN|apply Kd.R_drew));exact HO_5.out));(case aS=>exact (below_size (by repeat (first|(with_reducible first|exact HB.out|apply below_alloc|apply pw_below_drewN|apply below_drew1)|exact HB.out))));(case aL=>have:=LMc42.out;omega);intro v150 w43 ho hb hg hat;rw [← Ny149.out] at ho;have n0_:=Aside0.mk (Kd.R_over' (by (with_reducible repeat (first|apply Kd.R_alloc|apply Kd.R_drewN|apply Kd.R_drew));exact HO_6.out) (Kd.R_typed (by (with_reducible repeat (first|apply Kd.R_alloc|apply Kd.R_drewN|apply Kd.R_drew));exact HO_5.out)) (by decide) hg);have n1_:=Aside0.mk (hb);have n2_:=Aside0.mk (ho);clear HO_6;clear HB;clear HO_5;have HO_6:=n0_;have HB:=n1_;have HO151:=n2_;clear n0_ n1_ n2_;clear ho hb hg hat))
                   go_roundg k3
                   case measure=>have:=HK1.out;have:=HJ8.out;have:=HK3.out;omega
                   case rel=>exact ⟨(y149),(x10_8),(by first|rfl|(simp;done)|(simp [*];done)),H',⟨by have:=HK1.out;have:=HJ8.out;have:=HK3.out;omega⟩,⟨by (with_reducible repeat (first|apply Kd.R_alloc|apply Kd.R_drewN|apply Kd.R_drew));exact HO151.out⟩,⟨by (with_reducible repeat (first|apply Kd.R_alloc|apply Kd.R_drewN|apply Kd.R_drew));exact HO_6.out⟩,⟨by repeat (first|(with_reducible first|exact HB.out|apply below_alloc|apply pw_below_drewN|apply below_drew1)|exact HB.out)⟩⟩
                  ·rw [if_neg c42] at H
                   exact absurd H (by simp)
                 ·rw [if_neg c41] at H
                  exact absurd H (by simp)
                ·rw [if_neg c40] at H
                 exact absurd H (by simp)
             ·rw [if_neg c19] at H
              exact absurd H (by simp)
            ·rw [if_neg c18] at H
             exact absurd H (by simp)
           ·rw [if_neg c17] at H
            have c17b0 : decide (x11_3 < x10_8) = false:=decide_eq_false c17
            clear c17
            have H':=Aside0.mk H
            clear H
            go_wp2
            go_roundg k3
            case measure=>have:=HK1.out;have:=HJ8.out;have:=HK3.out;omega
            case rel=>exact ⟨(x5_3),(wrap64 (x7_1 + 1)),(by first|rfl|(simp;done)|(simp [*];done)),H',⟨by have:=HK1.out;have:=HJ8.out;have:=HK3.out;omega⟩,⟨by (with_reducible repeat (first|apply Kd.R_alloc|apply Kd.R_drewN|apply Kd.R_drew));exact HO_5.out⟩,⟨by (with_reducible repeat (first|apply Kd.R_alloc|apply Kd.R_drewN|apply Kd.R_drew));exact HO_6.out⟩,⟨by repeat (first|(with_reducible first|exact HB.out|apply below_alloc|apply pw_below_drewN|apply below_drew1)|exact HB.out)⟩⟩
      ·rw [if_neg c8] at H
       have c8b0 : (t139 == 0) = false:=beq_eq_false_iff_ne.mpr c8
       have c8b1 : (t139 != 0) = true:=bne_iff_ne.mpr c8
       simp only [Option.some.injEq,Prod.mk.injEq] at H
       obtain ⟨rfl,rfl,rfl⟩:=H
       obtain ⟨Ao44,co44,eo44⟩:=Kd.R_slice HO_6.out
       subst eo44
       have p137 : 0 ≤ (x7_1 : Int):=of_decide_eq_true (by first|(with_reducible assumption)|assumption)
       have q137 : x7_1 < (t134.length : Int):=of_decide_eq_true (by first|(with_reducible assumption)|assumption)
       obtain ⟨ad137,e137,hx137_0⟩:=Kd.at_string (Kd.R_reads' HO_6.out).2.2 x7_1 p137 q137
       cases e137
       replace p137:=eq_true p137
       replace q137:=eq_true q137
       go_wp2_with (first|((with_reducible refine gate_callee (f:=15) rfl ?_);refine goesL_ (some 28) rfl rfl Tryd.func15 (by kernel_rfl) rfl #[.string (rdOf ByteArray.empty t134 x7_1)] rfl (by (try simp only [List.map_toArray,List.map_cons,List.map_nil]);first|done|rfl|(simp only [List.length_drop,List.length_take];rfl)|(simp (disch:=first|omega|(simp at *;omega)) only [u64_id,i64_id,u8_id];rfl)) ?_;(with_reducible refine (bosunref10_content.calls k1 (rdOf ByteArray.empty t134 x7_1) t138 t139 _ A7.out).mono ?_);rintro e w' ⟨rfl,⟨nd,rfl⟩⟩;refine ⟨_,rfl,?_⟩))
       go_ret3
       exact ⟨_,by first|rfl|(simp [errW_none,errW_some] <;> rfl)|(simp [*,errW_none,errW_some] <;> rfl),by first|exact Kd.R_nil _ _ _ _ _|exact Kd.N_nil _ _ _ _ _|exact Kd.V_nil _ _ _ _ _|exact Kd.Q_nil _ _ _ _ _|exact Kd.S_nil _ _ _ _ _,by repeat (first|(with_reducible first|exact HB.out|apply below_alloc|apply pw_below_drewN|apply below_drew1)|exact HB.out)⟩
     ·rw [if_neg c6] at H
      exact absurd H (by simp)
    ·rw [if_neg c5] at H
     have c5b0 : decide (x7_1 < (t134.length : Int)) = false:=decide_eq_false c5
     clear c5
     simp only [Option.some.injEq,Prod.mk.injEq] at H
     obtain ⟨rfl,rfl,rfl⟩:=H
     obtain ⟨Ao45,co45,eo45⟩:=Kd.R_slice HO_6.out
     subst eo45
     go_wp2
     go_ret3
     exact ⟨_,by first|rfl|(simp [errW_none,errW_some] <;> rfl)|(simp [*,errW_none,errW_some] <;> rfl),by (with_reducible repeat (first|apply Kd.R_alloc|apply Kd.R_drewN|apply Kd.R_drew));exact HO_5.out,by repeat (first|(with_reducible first|exact HB.out|apply below_alloc|apply pw_below_drewN|apply below_drew1)|exact HB.out)⟩

end Go.Proofs.YticabhjmojcfoaaDoor.GUt
