/- Written by this session's own program (wip/gen.py) out of the translation: plain Lean functions of the Go functions, and proofs that the calls come to their answers. No conditions beside those in the statements. -/
import Derived.Test.YticabhjmojcfoaaDoorGUtx0
namespace Go.Proofs.YticabhjmojcfoaaDoor.GUt
open Go.RowKit Go.Proofs.YticabhjmojcfoaaDoorW.PrintWords Go.Proofs.YticabhjmojcfoaaDoorW.PrintLast Go.Proofs.YticabhjmojcfoaaDoorW.PrintMore
attribute [local go_sem] max2_int min2_int max_two min_two max_three min_three max_four min_four   -- for this text's walks alone
set_option linter.unusedVariables false
set_option linter.unusedSimpArgs false

/-! ### ylines_remark: function 11 -/
mutual
def ylines_remark.l0 : Nat → ByteArray → Bool → Bool → Int → Int → Option (Int × Bool)
 | 0,_,_,_,_,_=>none
 | k + 1,x0,x4,x5,x8,x9=>if x9 < x8 then (if x5 = true then (ylines_remark.l0 k x0 x4 false x8 (wrap64 (x9 + 1))) else (if x4 = true then (if 0 ≤ x9 then (if x9 < (x0.size : Int) then (ylines_remark.j1 k x0 x4 x5 x9 x8 x9 ((bt x0 x9) == 92)) else (none)) else (none)) else (ylines_remark.j1 k x0 x4 x5 x9 x8 x9 false))) else (some ((x0.size : Int),!x4))
def ylines_remark.j1 : Nat → ByteArray → Bool → Bool → Int → Int → Int → Bool → Option (Int × Bool)
 | 0,_,_,_,_,_,_,_=>none
 | k + 1,x0,x4,x5,x6,x8,x9,x14=>if x14 = true then (ylines_remark.l0 k x0 x4 true x8 (wrap64 (x9 + 1))) else (if 0 ≤ x6 then (if x6 < (x0.size : Int) then (if (bt x0 x6) = 34 then (ylines_remark.l0 k x0 (!x4) x5 x8 (wrap64 (x9 + 1))) else (if (bt x0 x6) = 35 then (if x4 = true then (ylines_remark.l0 k x0 x4 x5 x8 (wrap64 (x9 + 1))) else (if x6 = 0 then (some (x6,true)) else (if 0 ≤ (wrap64 (x6 - 1)) then (if (wrap64 (x6 - 1)) < (x0.size : Int) then (if (bt x0 (wrap64 (x6 - 1))) = 32 then (some (x6,true)) else (ylines_remark.l0 k x0 x4 x5 x8 (wrap64 (x9 + 1)))) else (none)) else (none)))) else (ylines_remark.l0 k x0 x4 x5 x8 (wrap64 (x9 + 1))))) else (none)) else (none))
end
def ylines_remark.f (k : Nat) (a0 : ByteArray) : Option (Int × Bool):=ylines_remark.l0 k a0 false false (a0.size : Int) 0
theorem ylines_remark.mono_l : ∀ k,(∀ y0 y1 y2 y3 y4,LeO (ylines_remark.l0 k y0 y1 y2 y3 y4) (ylines_remark.l0 (k + 1) y0 y1 y2 y3 y4)) ∧ (∀ y0 y1 y2 y3 y4 y5 y6,LeO (ylines_remark.j1 k y0 y1 y2 y3 y4 y5 y6) (ylines_remark.j1 (k + 1) y0 y1 y2 y3 y4 y5 y6))
 | 0=>⟨fun _ _ _ _ _ r h=>by simp [ylines_remark.l0] at h,fun _ _ _ _ _ _ _ r h=>by simp [ylines_remark.j1] at h⟩
 | k + 1=>by
  obtain ⟨ih0,ih1⟩:=ylines_remark.mono_l k
  refine ⟨?_,?_⟩
  ·intro y0 y1 y2 y3 y4
   unfold ylines_remark.l0
   repeat' first
   | (with_reducible exact ih0 _ _ _ _ _)
   | (with_reducible exact ih1 _ _ _ _ _ _ _)
   | (with_reducible exact LeO.refl _)
   | (with_reducible exact LeO.none _)
   | (with_reducible refine LeO.ite ?_ ?_)
   | (with_reducible refine LeO.bind ?_ (fun _=>?_))
   | exact ih0 _ _ _ _ _
   | exact ih1 _ _ _ _ _ _ _
   | exact LeO.none _
   | refine LeO.ite ?_ ?_
   | refine LeO.bind ?_ (fun _=>?_)
  ·intro y0 y1 y2 y3 y4 y5 y6
   unfold ylines_remark.j1
   repeat' first
   | (with_reducible exact ih0 _ _ _ _ _)
   | (with_reducible exact ih1 _ _ _ _ _ _ _)
   | (with_reducible exact LeO.refl _)
   | (with_reducible exact LeO.none _)
   | (with_reducible refine LeO.ite ?_ ?_)
   | (with_reducible refine LeO.bind ?_ (fun _=>?_))
   | exact ih0 _ _ _ _ _
   | exact ih1 _ _ _ _ _ _ _
   | exact LeO.none _
   | refine LeO.ite ?_ ?_
   | refine LeO.bind ?_ (fun _=>?_)
theorem ylines_remark.mono : ∀ a0 k,LeO (ylines_remark.f k a0) (ylines_remark.f (k + 1) a0):=by
 intro a0 k
 obtain ⟨ih0,ih1⟩:=ylines_remark.mono_l k
 unfold ylines_remark.f
 repeat' first
   | (with_reducible exact ih0 _ _ _ _ _)
   | (with_reducible exact ih1 _ _ _ _ _ _ _)
   | (with_reducible exact LeO.refl _)
   | (with_reducible exact LeO.none _)
   | (with_reducible refine LeO.ite ?_ ?_)
   | (with_reducible refine LeO.bind ?_ (fun _=>?_))
   | exact ih0 _ _ _ _ _
   | exact ih1 _ _ _ _ _ _ _
   | exact LeO.none _
   | refine LeO.ite ?_ ?_
   | refine LeO.bind ?_ (fun _=>?_)
set_option maxHeartbeats 8000000 in
set_option maxRecDepth 100000 in
theorem ylines_remark.calls (k : Nat) (a0 : ByteArray) (r1 : Int) (r2 : Bool) (w : World) (h : ylines_remark.f k a0 = some (r1,r2)) :
  Calls Tryd.prog 11 #[.string a0] w fun e w'=>e = .returned (.tuple #[.int .i64 r1,.bool r2]) ∧ Drawn0 w w':=by
 have H : (ylines_remark.l0 k a0 false false (a0.size : Int) 0) = some (r1,r2):=h
 clear h
 have H':=Aside0.mk H
 clear H
 go_enter Tryd.func11,Tryd.ntmps11
 go_wp2
 go_loopg [4,5,9] k (fun kq v4 v5 v9 w'=>∃ (x4_1 : Bool) (x5_1 : Bool) (x9_1 : Int),v4 = .bool x4_1 ∧ v5 = .bool x5_1 ∧ v9 = .int .i64 x9_1 ∧ Aside0 (ylines_remark.l0 kq a0 x4_1 x5_1 (a0.size : Int) x9_1 = some (r1,r2)) ∧ Aside0 (kq ≤ k) ∧ Drawn0 w w')
 case atStart=>exact ⟨(false),(false),(0),(by first|rfl|(simp;done)|(simp [*];done)),(by first|rfl|(simp;done)|(simp [*];done)),(by first|rfl|(simp;done)|(simp [*];done)),H',⟨Nat.le_refl _⟩,by repeat (first|exact Drawn0.refl _|apply Drawn0.step)⟩
 case round =>
  clear H'
  try clear c1
  obtain ⟨x4_1,x5_1,x9_1,rfl,rfl,rfl,HA,HK1,⟨m1,rfl⟩⟩:=hrel
  cases gk with
  | zero=>exact absurd HA.out (by simp [ylines_remark.l0])
  | succ k1 =>
   have H:=HA.out
   clear HA
   simp only [ylines_remark.l0] at H
   by_cases c2 : x9_1 < (a0.size : Int)
   ·rw [if_pos c2] at H
    have c2b0 : decide (x9_1 < (a0.size : Int)) = true:=decide_eq_true c2
    clear c2
    by_cases c3 : x5_1 = true
    ·subst c3
     have H1 : (ylines_remark.l0 k1 a0 x4_1 false (a0.size : Int) (wrap64 (x9_1 + 1))) = some (r1,r2):=by rw [if_pos rfl] at H;exact H
     clear H
     have H:=H1
     clear H1
     have H':=Aside0.mk H
     clear H
     go_wp2
     go_roundg k1
     case measure=>have:=HK1.out;omega
     case rel=>exact ⟨(x4_1),(false),(wrap64 (x9_1 + 1)),(by first|rfl|(simp;done)|(simp [*];done)),(by first|rfl|(simp;done)|(simp [*];done)),(by first|rfl|(simp;done)|(simp [*];done)),H',⟨by have:=HK1.out;omega⟩,by repeat (first|exact Drawn0.refl _|apply Drawn0.step)⟩
    ·replace c3:=Bool.eq_false_iff.mpr c3
     subst c3
     have H1 : (if x4_1 = true then (if 0 ≤ x9_1 then (if x9_1 < (a0.size : Int) then (ylines_remark.j1 k1 a0 x4_1 false x9_1 (a0.size : Int) x9_1 ((bt a0 x9_1) == 92)) else (none)) else (none)) else (ylines_remark.j1 k1 a0 x4_1 false x9_1 (a0.size : Int) x9_1 false)) = some (r1,r2):=by rw [if_neg (show ¬ (false = true) by decide)] at H;exact H
     clear H
     have H:=H1
     clear H1
     have HC4:=Aside0.mk H
     clear H
     go_upto_region 7 with (fail)
     go_cut [14] (fun v14 wc=>∃ (kq : Nat) (x14_3 : Bool),v14 = .bool x14_3 ∧ Aside0 (ylines_remark.j1 kq a0 x4_1 false x9_1 (a0.size : Int) x9_1 x14_3 = some (r1,r2)) ∧ Aside0 (kq ≤ k1) ∧ Drawn0 w wc)
     case first =>
      have H:=HC4.out
      clear HC4
      by_cases c5 : x4_1 = true
      ·subst c5
       have H1 : (if 0 ≤ x9_1 then (if x9_1 < (a0.size : Int) then (ylines_remark.j1 k1 a0 true false x9_1 (a0.size : Int) x9_1 ((bt a0 x9_1) == 92)) else (none)) else (none)) = some (r1,r2):=by rw [if_pos rfl] at H;exact H
       clear H
       have H:=H1
       clear H1
       by_cases c6 : 0 ≤ x9_1
       ·rw [if_pos c6] at H
        have c6b0 : decide (0 ≤ x9_1) = true:=decide_eq_true c6
        clear c6
        (first|rw [c6b0]|(simp only [i64_w,i32_w];rw [c6b0])|skip)
        by_cases c7 : x9_1 < (a0.size : Int)
        ·rw [if_pos c7] at H
         have c7b0 : decide (x9_1 < (a0.size : Int)) = true:=decide_eq_true c7
         clear c7
         have H':=Aside0.mk H
         clear H
         have p8 : 0 ≤ (x9_1 : Int):=of_decide_eq_true (by first|(with_reducible assumption)|assumption)
         have q8 : x9_1 < (a0.size : Int):=of_decide_eq_true (by first|(with_reducible assumption)|assumption)
         have hx8:=bt_at a0 x9_1
         replace p8:=eq_true p8
         replace q8:=eq_true q8
         go_wp2
         go_meet
         case rel=>exact ⟨_,(((bt a0 x9_1) == 92)),(by first|rfl|(simp;done)|(simp [*];done)),H',⟨by have:=HK1.out;first|omega|exact Nat.le_refl _⟩,by repeat (first|exact Drawn0.refl _|apply Drawn0.step)⟩
        ·rw [if_neg c7] at H
         exact absurd H (by simp)
       ·rw [if_neg c6] at H
        exact absurd H (by simp)
      ·replace c5:=Bool.eq_false_iff.mpr c5
       subst c5
       have H1 : (ylines_remark.j1 k1 a0 false false x9_1 (a0.size : Int) x9_1 false) = some (r1,r2):=by rw [if_neg (show ¬ (false = true) by decide)] at H;exact H
       clear H
       have H:=H1
       clear H1
       have H':=Aside0.mk H
       clear H
       go_wp2
       go_meet
       case rel=>exact ⟨_,(false),(by first|rfl|(simp;done)|(simp [*];done)),H',⟨by have:=HK1.out;first|omega|exact Nat.le_refl _⟩,by repeat (first|exact Drawn0.refl _|apply Drawn0.step)⟩
     case rest =>
      clear HC4
      try clear c1
      try clear c2
      try clear c2b0
      try clear p2
      try clear c3
      try clear c5
      try clear c6
      try clear c6b0
      try clear p6
      try clear c7
      try clear c7b0
      try clear p8
      try clear q8
      try clear hx8
      try clear p8
      try clear q8
      obtain ⟨kq,x14_3,rfl,HA,HJ3,⟨mc3,rfl⟩⟩:=hcut
      cases kq with
      | zero=>exact absurd HA.out (by simp [ylines_remark.j1])
      | succ kj3 =>
       have H:=HA.out
       clear HA
       simp only [ylines_remark.j1] at H
       by_cases c9 : x14_3 = true
       ·subst c9
        have H1 : (ylines_remark.l0 kj3 a0 x4_1 true (a0.size : Int) (wrap64 (x9_1 + 1))) = some (r1,r2):=by rw [if_pos rfl] at H;exact H
        clear H
        have H:=H1
        clear H1
        have H':=Aside0.mk H
        clear H
        go_wp2
        go_roundg kj3
        case measure=>have:=HK1.out;have:=HJ3.out;omega
        case rel=>exact ⟨(x4_1),(true),(wrap64 (x9_1 + 1)),(by first|rfl|(simp;done)|(simp [*];done)),(by first|rfl|(simp;done)|(simp [*];done)),(by first|rfl|(simp;done)|(simp [*];done)),H',⟨by have:=HK1.out;have:=HJ3.out;omega⟩,by repeat (first|exact Drawn0.refl _|apply Drawn0.step)⟩
       ·replace c9:=Bool.eq_false_iff.mpr c9
        subst c9
        have H1 : (if 0 ≤ x9_1 then (if x9_1 < (a0.size : Int) then (if (bt a0 x9_1) = 34 then (ylines_remark.l0 kj3 a0 (!x4_1) false (a0.size : Int) (wrap64 (x9_1 + 1))) else (if (bt a0 x9_1) = 35 then (if x4_1 = true then (ylines_remark.l0 kj3 a0 x4_1 false (a0.size : Int) (wrap64 (x9_1 + 1))) else (if x9_1 = 0 then (some (x9_1,true)) else (if 0 ≤ (wrap64 (x9_1 - 1)) then (if (wrap64 (x9_1 - 1)) < (a0.size : Int) then (if (bt a0 (wrap64 (x9_1 - 1))) = 32 then (some (x9_1,true)) else (ylines_remark.l0 kj3 a0 x4_1 false (a0.size : Int) (wrap64 (x9_1 + 1)))) else (none)) else (none)))) else (ylines_remark.l0 kj3 a0 x4_1 false (a0.size : Int) (wrap64 (x9_1 + 1))))) else (none)) else (none)) = some (r1,r2):=by rw [if_neg (show ¬ (false = true) by decide)] at H;exact H
        clear H
        have H:=H1
        clear H1
        by_cases c10 : 0 ≤ x9_1
        ·rw [if_pos c10] at H
         have c10b0 : decide (0 ≤ x9_1) = true:=decide_eq_true c10
         clear c10
         by_cases c11 : x9_1 < (a0.size : Int)
         ·rw [if_pos c11] at H
          have c11b0 : decide (x9_1 < (a0.size : Int)) = true:=decide_eq_true c11
          clear c11
          by_cases c13 : (bt a0 x9_1) = 34
          ·rw [if_pos c13] at H
           have c13b0 : ((bt a0 x9_1) == 34) = true:=beq_iff_eq.mpr c13
           have c13b1 : ((bt a0 x9_1) != 34) = false:=bne_eq_false_iff_eq.mpr c13
           clear c13
           have H':=Aside0.mk H
           clear H
           have p12 : 0 ≤ (x9_1 : Int):=of_decide_eq_true (by first|(with_reducible assumption)|assumption)
           have q12 : x9_1 < (a0.size : Int):=of_decide_eq_true (by first|(with_reducible assumption)|assumption)
           have hx12:=bt_at a0 x9_1
           replace p12:=eq_true p12
           replace q12:=eq_true q12
           go_wp2
           go_roundg kj3
           case measure=>have:=HK1.out;have:=HJ3.out;omega
           case rel=>exact ⟨(!x4_1),(false),(wrap64 (x9_1 + 1)),(by first|rfl|(simp;done)|(simp [*];done)),(by first|rfl|(simp;done)|(simp [*];done)),(by first|rfl|(simp;done)|(simp [*];done)),H',⟨by have:=HK1.out;have:=HJ3.out;omega⟩,by repeat (first|exact Drawn0.refl _|apply Drawn0.step)⟩
          ·rw [if_neg c13] at H
           have c13b0 : ((bt a0 x9_1) == 34) = false:=beq_eq_false_iff_ne.mpr c13
           have c13b1 : ((bt a0 x9_1) != 34) = true:=bne_iff_ne.mpr c13
           by_cases c15 : (bt a0 x9_1) = 35
           ·rw [if_pos c15] at H
            have c15b0 : ((bt a0 x9_1) == 35) = true:=beq_iff_eq.mpr c15
            have c15b1 : ((bt a0 x9_1) != 35) = false:=bne_eq_false_iff_eq.mpr c15
            clear c15
            by_cases c16 : x4_1 = true
            ·subst c16
             have H1 : (ylines_remark.l0 kj3 a0 true false (a0.size : Int) (wrap64 (x9_1 + 1))) = some (r1,r2):=by rw [if_pos rfl] at H;exact H
             clear H
             have H:=H1
             clear H1
             have H':=Aside0.mk H
             clear H
             have p12 : 0 ≤ (x9_1 : Int):=of_decide_eq_true (by first|(with_reducible assumption)|assumption)
             have q12 : x9_1 < (a0.size : Int):=of_decide_eq_true (by first|(with_reducible assumption)|assumption)
             have hx12:=bt_at a0 x9_1
             replace p12:=eq_true p12
             replace q12:=eq_true q12
             have p14 : 0 ≤ (x9_1 : Int):=of_decide_eq_true (by first|(with_reducible assumption)|assumption)
             have q14 : x9_1 < (a0.size : Int):=of_decide_eq_true (by first|(with_reducible assumption)|assumption)
             have hx14:=bt_at a0 x9_1
             replace p14:=eq_true p14
             replace q14:=eq_true q14
             go_wp2
             go_roundg kj3
             case measure=>have:=HK1.out;have:=HJ3.out;omega
             case rel=>exact ⟨(true),(false),(wrap64 (x9_1 + 1)),(by first|rfl|(simp;done)|(simp [*];done)),(by first|rfl|(simp;done)|(simp [*];done)),(by first|rfl|(simp;done)|(simp [*];done)),H',⟨by have:=HK1.out;have:=HJ3.out;omega⟩,by repeat (first|exact Drawn0.refl _|apply Drawn0.step)⟩
            ·replace c16:=Bool.eq_false_iff.mpr c16
             subst c16
             have H1 : (if x9_1 = 0 then (some (x9_1,true)) else (if 0 ≤ (wrap64 (x9_1 - 1)) then (if (wrap64 (x9_1 - 1)) < (a0.size : Int) then (if (bt a0 (wrap64 (x9_1 - 1))) = 32 then (some (x9_1,true)) else (ylines_remark.l0 kj3 a0 false false (a0.size : Int) (wrap64 (x9_1 + 1)))) else (none)) else (none))) = some (r1,r2):=by rw [if_neg (show ¬ (false = true) by decide)] at H;exact H
             clear H
             have H:=H1
             clear H1
             by_cases c17 : x9_1 = 0
             ·rw [if_pos c17] at H
              have c17b0 : (x9_1 == 0) = true:=beq_iff_eq.mpr c17
              have c17b1 : (x9_1 != 0) = false:=bne_eq_false_iff_eq.mpr c17
              clear c17
              simp only [Option.some.injEq,Prod.mk.injEq] at H
              obtain ⟨rfl,rfl⟩:=H
              have p12 : 0 ≤ (x9_1 : Int):=of_decide_eq_true (by first|(with_reducible assumption)|assumption)
              have q12 : x9_1 < (a0.size : Int):=of_decide_eq_true (by first|(with_reducible assumption)|assumption)
              have hx12:=bt_at a0 x9_1
              replace p12:=eq_true p12
              replace q12:=eq_true q12
              have p14 : 0 ≤ (x9_1 : Int):=of_decide_eq_true (by first|(with_reducible assumption)|assumption)
              have q14 : x9_1 < (a0.size : Int):=of_decide_eq_true (by first|(with_reducible assumption)|assumption)
              have hx14:=bt_at a0 x9_1
              replace p14:=eq_true p14
              replace q14:=eq_true q14
              go_wp2
              go_ret2
              exact ⟨by first|rfl|(simp;done)|(simp [*];done),by repeat (first|exact Drawn0.refl _|apply Drawn0.step)⟩
             ·rw [if_neg c17] at H
              have c17b0 : (x9_1 == 0) = false:=beq_eq_false_iff_ne.mpr c17
              have c17b1 : (x9_1 != 0) = true:=bne_iff_ne.mpr c17
              obtain ⟨ji18,hji18⟩ : ∃ j_ : Int,(wrap64 (x9_1 - 1)) = j_:=⟨_,rfl⟩
              replace H : (if 0 ≤ (ji18) then (if (ji18) < (a0.size : Int) then (if (bt a0 (ji18)) = 32 then (some (x9_1,true)) else (ylines_remark.l0 kj3 a0 false false (a0.size : Int) (wrap64 (x9_1 + 1)))) else (none)) else (none)) = some (r1,r2):=by first|(rw [hji18] at H;exact H)|(simp only [hji18] at H ⊢;exact H)
              have hji18w : (IntKind.i64.wrap (x9_1 - 1)) = ji18:=(i64_w _).trans hji18
              by_cases c19 : 0 ≤ (ji18)
              ·rw [if_pos c19] at H
               have c19b0 : decide (0 ≤ (ji18)) = true:=decide_eq_true c19
               clear c19
               by_cases c20 : (ji18) < (a0.size : Int)
               ·rw [if_pos c20] at H
                have c20b0 : decide ((ji18) < (a0.size : Int)) = true:=decide_eq_true c20
                clear c20
                by_cases c22 : (bt a0 (ji18)) = 32
                ·rw [if_pos c22] at H
                 have c22b0 : ((bt a0 (ji18)) == 32) = true:=beq_iff_eq.mpr c22
                 have c22b1 : ((bt a0 (ji18)) != 32) = false:=bne_eq_false_iff_eq.mpr c22
                 clear c22
                 simp only [Option.some.injEq,Prod.mk.injEq] at H
                 obtain ⟨rfl,rfl⟩:=H
                 have p12 : 0 ≤ (x9_1 : Int):=of_decide_eq_true (by first|(with_reducible assumption)|assumption)
                 have q12 : x9_1 < (a0.size : Int):=of_decide_eq_true (by first|(with_reducible assumption)|assumption)
                 have hx12:=bt_at a0 x9_1
                 replace p12:=eq_true p12
                 replace q12:=eq_true q12
                 have p14 : 0 ≤ (x9_1 : Int):=of_decide_eq_true (by first|(with_reducible assumption)|assumption)
                 have q14 : x9_1 < (a0.size : Int):=of_decide_eq_true (by first|(with_reducible assumption)|assumption)
                 have hx14:=bt_at a0 x9_1
                 replace p14:=eq_true p14
                 replace q14:=eq_true q14
                 have p21 : 0 ≤ ((ji18) : Int):=of_decide_eq_true (by first|(with_reducible assumption)|assumption)
                 have q21 : (ji18) < (a0.size : Int):=of_decide_eq_true (by first|(with_reducible assumption)|assumption)
                 have hx21:=bt_at a0 (ji18)
                 replace p21:=eq_true p21
                 replace q21:=eq_true q21
                 go_wp2
                 go_ret2
                 exact ⟨by first|rfl|(simp;done)|(simp only [← hji18] <;> (first|rfl|simp))|(simp [*];done),by repeat (first|exact Drawn0.refl _|apply Drawn0.step)⟩
                ·rw [if_neg c22] at H
                 have c22b0 : ((bt a0 (ji18)) == 32) = false:=beq_eq_false_iff_ne.mpr c22
                 have c22b1 : ((bt a0 (ji18)) != 32) = true:=bne_iff_ne.mpr c22
                 have H':=Aside0.mk H
                 clear H
                 have p12 : 0 ≤ (x9_1 : Int):=of_decide_eq_true (by first|(with_reducible assumption)|assumption)
                 have q12 : x9_1 < (a0.size : Int):=of_decide_eq_true (by first|(with_reducible assumption)|assumption)
                 have hx12:=bt_at a0 x9_1
                 replace p12:=eq_true p12
                 replace q12:=eq_true q12
                 have p14 : 0 ≤ (x9_1 : Int):=of_decide_eq_true (by first|(with_reducible assumption)|assumption)
                 have q14 : x9_1 < (a0.size : Int):=of_decide_eq_true (by first|(with_reducible assumption)|assumption)
                 have hx14:=bt_at a0 x9_1
                 replace p14:=eq_true p14
                 replace q14:=eq_true q14
                 have p21 : 0 ≤ ((ji18) : Int):=of_decide_eq_true (by first|(with_reducible assumption)|assumption)
                 have q21 : (ji18) < (a0.size : Int):=of_decide_eq_true (by first|(with_reducible assumption)|assumption)
                 have hx21:=bt_at a0 (ji18)
                 replace p21:=eq_true p21
                 replace q21:=eq_true q21
                 go_wp2
                 go_roundg kj3
                 case measure=>have:=HK1.out;have:=HJ3.out;omega
                 case rel=>exact ⟨(false),(false),(wrap64 (x9_1 + 1)),(by first|rfl|(simp;done)|(simp [*];done)),(by first|rfl|(simp;done)|(simp [*];done)),(by first|rfl|(simp;done)|(simp [*];done)),H',⟨by have:=HK1.out;have:=HJ3.out;omega⟩,by repeat (first|exact Drawn0.refl _|apply Drawn0.step)⟩
               ·rw [if_neg c20] at H
                exact absurd H (by simp)
              ·rw [if_neg c19] at H
               exact absurd H (by simp)
           ·rw [if_neg c15] at H
            have c15b0 : ((bt a0 x9_1) == 35) = false:=beq_eq_false_iff_ne.mpr c15
            have c15b1 : ((bt a0 x9_1) != 35) = true:=bne_iff_ne.mpr c15
            have H':=Aside0.mk H
            clear H
            have p12 : 0 ≤ (x9_1 : Int):=of_decide_eq_true (by first|(with_reducible assumption)|assumption)
            have q12 : x9_1 < (a0.size : Int):=of_decide_eq_true (by first|(with_reducible assumption)|assumption)
            have hx12:=bt_at a0 x9_1
            replace p12:=eq_true p12
            replace q12:=eq_true q12
            have p14 : 0 ≤ (x9_1 : Int):=of_decide_eq_true (by first|(with_reducible assumption)|assumption)
            have q14 : x9_1 < (a0.size : Int):=of_decide_eq_true (by first|(with_reducible assumption)|assumption)
            have hx14:=bt_at a0 x9_1
            replace p14:=eq_true p14
            replace q14:=eq_true q14
            go_wp2
            go_roundg kj3
            case measure=>have:=HK1.out;have:=HJ3.out;omega
            case rel=>exact ⟨(x4_1),(false),(wrap64 (x9_1 + 1)),(by first|rfl|(simp;done)|(simp [*];done)),(by first|rfl|(simp;done)|(simp [*];done)),(by first|rfl|(simp;done)|(simp [*];done)),H',⟨by have:=HK1.out;have:=HJ3.out;omega⟩,by repeat (first|exact Drawn0.refl _|apply Drawn0.step)⟩
         ·rw [if_neg c11] at H
          exact absurd H (by simp)
        ·rw [if_neg c10] at H
         exact absurd H (by simp)
   ·rw [if_neg c2] at H
    have c2b0 : decide (x9_1 < (a0.size : Int)) = false:=decide_eq_false c2
    clear c2
    simp only [Option.some.injEq,Prod.mk.injEq] at H
    obtain ⟨rfl,rfl⟩:=H
    go_wp2
    go_ret2
    exact ⟨by first|rfl|(simp;done)|(simp [*];done),by repeat (first|exact Drawn0.refl _|apply Drawn0.step)⟩

/-! ### stringslite_HasPrefix: function 39 -/
def stringslite_HasPrefix.f (a0 : ByteArray) (a1 : ByteArray) : Option (Bool):=if (a0.size : Int) ≥ (a1.size : Int) then (if 0 ≤ (a1.size : Int) then (if (a1.size : Int) ≤ (a0.size : Int) then (some ((a0.extract 0 ((a1.size : Int) : Int).toNat).toList == a1.toList)) else (none)) else (none)) else (some false)
set_option maxHeartbeats 8000000 in
set_option maxRecDepth 100000 in
theorem stringslite_HasPrefix.calls (a0 : ByteArray) (a1 : ByteArray) (r : Bool) (w : World) (h : stringslite_HasPrefix.f a0 a1 = some r) :
  Calls Tryd.prog 39 #[.string a0,.string a1] w fun e w'=>e = .returned (.bool r) ∧ Drawn0 w w':=by
 have H : (if (a0.size : Int) ≥ (a1.size : Int) then (if 0 ≤ (a1.size : Int) then (if (a1.size : Int) ≤ (a0.size : Int) then (some ((a0.extract 0 ((a1.size : Int) : Int).toNat).toList == a1.toList)) else (none)) else (none)) else (some false)) = some r:=h
 clear h
 by_cases c3 : (a0.size : Int) ≥ (a1.size : Int)
 ·rw [if_pos c3] at H
  have c3b0 : decide ((a1.size : Int) ≤ (a0.size : Int)) = true:=decide_eq_true c3
  have c3b1 : decide (a1.size ≤ a0.size) = true:=decide_eq_true (Int.ofNat_le.mp c3)
  clear c3
  by_cases c4 : 0 ≤ (a1.size : Int)
  ·rw [if_pos c4] at H
   have c4b0:=eq_true c4
   have c4b1 : decide (0 ≤ (a1.size : Int)) = true:=decide_eq_true c4
   clear c4
   by_cases c5 : (a1.size : Int) ≤ (a0.size : Int)
   ·rw [if_pos c5] at H
    have c5b0:=eq_true c5
    have c5b1 : decide ((a1.size : Int) ≤ (a0.size : Int)) = true:=decide_eq_true c5
    clear c5
    obtain rfl:=Option.some.inj H
    go_enter Tryd.func39,Tryd.ntmps39
    go_wp2
    go_ret
    exact ⟨by first|rfl|(simp;done)|(simp [*];done),by repeat (first|exact Drawn0.refl _|apply Drawn0.step)⟩
   ·rw [if_neg c5] at H
    exact absurd H (by simp)
  ·rw [if_neg c4] at H
   exact absurd H (by simp)
 ·rw [if_neg c3] at H
  have c3b0 : decide ((a1.size : Int) ≤ (a0.size : Int)) = false:=decide_eq_false c3
  have c3b1 : decide (a1.size ≤ a0.size) = false:=decide_eq_false (fun h=>c3 (Int.ofNat_le.mpr h))
  clear c3
  obtain rfl:=Option.some.inj H
  go_enter Tryd.func39,Tryd.ntmps39
  go_wp2
  go_ret
  exact ⟨by first|rfl|(simp;done)|(simp [*];done),by repeat (first|exact Drawn0.refl _|apply Drawn0.step)⟩

/-! ### strings_HasPrefix: function 21 -/
def strings_HasPrefix.f (a0 : ByteArray) (a1 : ByteArray) : Option (Bool):=(stringslite_HasPrefix.f a0 a1).bind fun t103=>(some t103)
set_option maxHeartbeats 8000000 in
set_option maxRecDepth 100000 in
theorem strings_HasPrefix.calls (a0 : ByteArray) (a1 : ByteArray) (r : Bool) (w : World) (h : strings_HasPrefix.f a0 a1 = some r) :
  Calls Tryd.prog 21 #[.string a0,.string a1] w fun e w'=>e = .returned (.bool r) ∧ Drawn0 w w':=by
 have H : ((stringslite_HasPrefix.f a0 a1).bind fun t103=>(some t103)) = some r:=h
 clear h
 replace H:=Option.bind_eq_some_iff.mp H
 obtain ⟨t103,A30,H⟩:=H
 replace H : (some t103) = some r:=H
 have A3:=Aside0.mk A30
 clear A30
 obtain rfl:=Option.some.inj H
 go_enter Tryd.func21,Tryd.ntmps21
 go_wp2_with (first|((with_reducible refine gate_callee (f:=39) rfl ?_);refine goesL_ (some 7) rfl rfl Tryd.func39 (by kernel_rfl) rfl #[.string a0,.string a1] rfl (by (try simp only [List.map_toArray,List.map_cons,List.map_nil]);first|done|rfl|(simp only [List.length_drop,List.length_take];rfl)|(simp (disch:=first|omega|(simp at *;omega)) only [u64_id,i64_id,u8_id];rfl)) ?_;(with_reducible refine (stringslite_HasPrefix.calls a0 a1 t103 _ A3.out).mono ?_);rintro e w' ⟨rfl,⟨nd,rfl⟩⟩;refine ⟨_,rfl,?_⟩))
 go_ret
 exact ⟨by first|rfl|(simp;done)|(simp [*];done),by repeat (first|exact Drawn0.refl _|apply Drawn0.step)⟩

end Go.Proofs.YticabhjmojcfoaaDoor.GUt
