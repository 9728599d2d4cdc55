/- Written by this session's own program (wip/gen.py) out of the translation: plain Lean functions of the Go functions, and proofs that the calls come to their answers. No conditions beside those in the statements. -/
import Derived.Test.YticabhjmojcfoaaDoorGUtx0
import Derived.Test.YticabhjmojcfoaaDoorGUtx10
namespace Go.Proofs.YticabhjmojcfoaaDoor.GUt
open Go.RowKit Go.Proofs.YticabhjmojcfoaaDoorW.PrintWords Go.Proofs.YticabhjmojcfoaaDoorW.PrintLast Go.Proofs.YticabhjmojcfoaaDoorW.PrintMore
attribute [local go_sem] max2_int min2_int max_two min_two max_three min_three max_four min_four   -- for this text's walks alone
set_option linter.unusedVariables false
set_option linter.unusedSimpArgs false

/-! ### bosunref10_content: function 15 -/
mutual
def bosunref10_content.l0 : Nat → ByteArray → Int → Option (ByteArray × Int)
 | 0,_,_=>none
 | k + 1,x0,x4=>if x4 < (x0.size : Int) then (if 0 ≤ x4 then (if (bt x0 x4) < 32 then (some ((⟨#[]⟩ : ByteArray),10)) else (bosunref10_content.l0 k x0 (wrap64 (x4 + 1)))) else (none)) else ((bosunref05_Utf8.f k x0).bind fun t133=>(if t133 = true then (bosunref10_content.l1 k x0 0) else (some ((⟨#[]⟩ : ByteArray),10))))
def bosunref10_content.l1 : Nat → ByteArray → Int → Option (ByteArray × Int)
 | 0,_,_=>none
 | k + 1,x0,x5=>if x5 < (x0.size : Int) then (if 0 ≤ x5 then (if (bt x0 x5) = 35 then (if x5 = 0 then (bosunref10_content.j2 k x0 x5 true) else (if 0 ≤ (wrap64 (x5 - 1)) then (if (wrap64 (x5 - 1)) < (x0.size : Int) then (bosunref10_content.j2 k x0 x5 ((bt x0 (wrap64 (x5 - 1))) == 32)) else (none)) else (none))) else (bosunref10_content.j2 k x0 x5 false)) else (none)) else (some (x0,0))
def bosunref10_content.j2 : Nat → ByteArray → Int → Bool → Option (ByteArray × Int)
 | 0,_,_,_=>none
 | k + 1,x0,x5,x38=>if x38 = true then (if 0 ≤ x5 then (if x5 ≤ (x0.size : Int) then (some (x0.extract 0 (x5 : Int).toNat,0)) else (none)) else (none)) else (if 0 ≤ x5 then (if x5 < (x0.size : Int) then (if (bt x0 x5) = 34 then (bosunref10_content.l2 k x0 (wrap64 (x5 + 1))) else (bosunref10_content.l1 k x0 (wrap64 (x5 + 1)))) else (none)) else (none))
def bosunref10_content.l2 : Nat → ByteArray → Int → Option (ByteArray × Int)
 | 0,_,_=>none
 | k + 1,x0,x6=>if x6 < (x0.size : Int) then (if 0 ≤ x6 then (bosunref10_content.j4 k x0 x6 ((bt x0 x6) != 34)) else (none)) else (bosunref10_content.j4 k x0 x6 false)
def bosunref10_content.j4 : Nat → ByteArray → Int → Bool → Option (ByteArray × Int)
 | 0,_,_,_=>none
 | k + 1,x0,x6,x59=>if x59 = true then (if 0 ≤ x6 then (if x6 < (x0.size : Int) then (if (bt x0 x6) = 92 then (bosunref10_content.l2 k x0 (wrap64 ((wrap64 (x6 + 1)) + 1))) else (bosunref10_content.l2 k x0 (wrap64 (x6 + 1)))) else (none)) else (none)) else (if x6 ≥ (x0.size : Int) then (some ((⟨#[]⟩ : ByteArray),11)) else (bosunref10_content.l1 k x0 (wrap64 (x6 + 1))))
end
def bosunref10_content.f (k : Nat) (a0 : ByteArray) : Option (ByteArray × Int):=bosunref10_content.l0 k a0 0
theorem bosunref10_content.mono_l : ∀ k,(∀ y0 y1,LeO (bosunref10_content.l0 k y0 y1) (bosunref10_content.l0 (k + 1) y0 y1)) ∧ (∀ y0 y1,LeO (bosunref10_content.l1 k y0 y1) (bosunref10_content.l1 (k + 1) y0 y1)) ∧ (∀ y0 y1 y2,LeO (bosunref10_content.j2 k y0 y1 y2) (bosunref10_content.j2 (k + 1) y0 y1 y2)) ∧ (∀ y0 y1,LeO (bosunref10_content.l2 k y0 y1) (bosunref10_content.l2 (k + 1) y0 y1)) ∧ (∀ y0 y1 y2,LeO (bosunref10_content.j4 k y0 y1 y2) (bosunref10_content.j4 (k + 1) y0 y1 y2))
 | 0=>⟨fun _ _ r h=>by simp [bosunref10_content.l0] at h,fun _ _ r h=>by simp [bosunref10_content.l1] at h,fun _ _ _ r h=>by simp [bosunref10_content.j2] at h,fun _ _ r h=>by simp [bosunref10_content.l2] at h,fun _ _ _ r h=>by simp [bosunref10_content.j4] at h⟩
 | k + 1=>by
  obtain ⟨ih0,ih1,ih2,ih3,ih4⟩:=bosunref10_content.mono_l k
  refine ⟨?_,?_,?_,?_,?_⟩
  ·intro y0 y1
   unfold bosunref10_content.l0
   repeat' first
   | (with_reducible exact ih0 _ _)
   | (with_reducible exact ih1 _ _)
   | (with_reducible exact ih2 _ _ _)
   | (with_reducible exact ih3 _ _)
   | (with_reducible exact ih4 _ _ _)
   | (with_reducible exact bosunref05_Utf8.mono _ _)
   | (with_reducible exact LeO.refl _)
   | (with_reducible exact LeO.none _)
   | (with_reducible refine LeO.ite ?_ ?_)
   | (with_reducible refine LeO.bind ?_ (fun _=>?_))
   | exact ih0 _ _
   | exact ih1 _ _
   | exact ih2 _ _ _
   | exact ih3 _ _
   | exact ih4 _ _ _
   | exact bosunref05_Utf8.mono _ _
   | exact LeO.none _
   | refine LeO.ite ?_ ?_
   | refine LeO.bind ?_ (fun _=>?_)
  ·intro y0 y1
   unfold bosunref10_content.l1
   repeat' first
   | (with_reducible exact ih0 _ _)
   | (with_reducible exact ih1 _ _)
   | (with_reducible exact ih2 _ _ _)
   | (with_reducible exact ih3 _ _)
   | (with_reducible exact ih4 _ _ _)
   | (with_reducible exact bosunref05_Utf8.mono _ _)
   | (with_reducible exact LeO.refl _)
   | (with_reducible exact LeO.none _)
   | (with_reducible refine LeO.ite ?_ ?_)
   | (with_reducible refine LeO.bind ?_ (fun _=>?_))
   | exact ih0 _ _
   | exact ih1 _ _
   | exact ih2 _ _ _
   | exact ih3 _ _
   | exact ih4 _ _ _
   | exact bosunref05_Utf8.mono _ _
   | exact LeO.none _
   | refine LeO.ite ?_ ?_
   | refine LeO.bind ?_ (fun _=>?_)
  ·intro y0 y1 y2
   unfold bosunref10_content.j2
   repeat' first
   | (with_reducible exact ih0 _ _)
   | (with_reducible exact ih1 _ _)
   | (with_reducible exact ih2 _ _ _)
   | (with_reducible exact ih3 _ _)
   | (with_reducible exact ih4 _ _ _)
   | (with_reducible exact bosunref05_Utf8.mono _ _)
   | (with_reducible exact LeO.refl _)
   | (with_reducible exact LeO.none _)
   | (with_reducible refine LeO.ite ?_ ?_)
   | (with_reducible refine LeO.bind ?_ (fun _=>?_))
   | exact ih0 _ _
   | exact ih1 _ _
   | exact ih2 _ _ _
   | exact ih3 _ _
   | exact ih4 _ _ _
   | exact bosunref05_Utf8.mono _ _
   | exact LeO.none _
   | refine LeO.ite ?_ ?_
   | refine LeO.bind ?_ (fun _=>?_)
  ·intro y0 y1
   unfold bosunref10_content.l2
   repeat' first
   | (with_reducible exact ih0 _ _)
   | (with_reducible exact ih1 _ _)
   | (with_reducible exact ih2 _ _ _)
   | (with_reducible exact ih3 _ _)
   | (with_reducible exact ih4 _ _ _)
   | (with_reducible exact bosunref05_Utf8.mono _ _)
   | (with_reducible exact LeO.refl _)
   | (with_reducible exact LeO.none _)
   | (with_reducible refine LeO.ite ?_ ?_)
   | (with_reducible refine LeO.bind ?_ (fun _=>?_))
   | exact ih0 _ _
   | exact ih1 _ _
   | exact ih2 _ _ _
   | exact ih3 _ _
   | exact ih4 _ _ _
   | exact bosunref05_Utf8.mono _ _
   | exact LeO.none _
   | refine LeO.ite ?_ ?_
   | refine LeO.bind ?_ (fun _=>?_)
  ·intro y0 y1 y2
   unfold bosunref10_content.j4
   repeat' first
   | (with_reducible exact ih0 _ _)
   | (with_reducible exact ih1 _ _)
   | (with_reducible exact ih2 _ _ _)
   | (with_reducible exact ih3 _ _)
   | (with_reducible exact ih4 _ _ _)
   | (with_reducible exact bosunref05_Utf8.mono _ _)
   | (with_reducible exact LeO.refl _)
   | (with_reducible exact LeO.none _)
   | (with_reducible refine LeO.ite ?_ ?_)
   | (with_reducible refine LeO.bind ?_ (fun _=>?_))
   | exact ih0 _ _
   | exact ih1 _ _
   | exact ih2 _ _ _
   | exact ih3 _ _
   | exact ih4 _ _ _
   | exact bosunref05_Utf8.mono _ _
   | exact LeO.none _
   | refine LeO.ite ?_ ?_
   | refine LeO.bind ?_ (fun _=>?_)
theorem bosunref10_content.mono : ∀ a0 k,LeO (bosunref10_content.f k a0) (bosunref10_content.f (k + 1) a0):=by
 intro a0 k
 obtain ⟨ih0,ih1,ih2,ih3,ih4⟩:=bosunref10_content.mono_l k
 unfold bosunref10_content.f
 repeat' first
   | (with_reducible exact ih0 _ _)
   | (with_reducible exact ih1 _ _)
   | (with_reducible exact ih2 _ _ _)
   | (with_reducible exact ih3 _ _)
   | (with_reducible exact ih4 _ _ _)
   | (with_reducible exact bosunref05_Utf8.mono _ _)
   | (with_reducible exact LeO.refl _)
   | (with_reducible exact LeO.none _)
   | (with_reducible refine LeO.ite ?_ ?_)
   | (with_reducible refine LeO.bind ?_ (fun _=>?_))
   | exact ih0 _ _
   | exact ih1 _ _
   | exact ih2 _ _ _
   | exact ih3 _ _
   | exact ih4 _ _ _
   | exact bosunref05_Utf8.mono _ _
   | exact LeO.none _
   | refine LeO.ite ?_ ?_
   | refine LeO.bind ?_ (fun _=>?_)
set_option maxHeartbeats 8000000 in
set_option maxRecDepth 100000 in
theorem bosunref10_content.calls (k : Nat) (a0 : ByteArray) (r1 : ByteArray) (r2 : Int) (w : World) (h : bosunref10_content.f k a0 = some (r1,r2)) :
  Calls Tryd.prog 15 #[.string a0] w fun e w'=>e = .returned (.tuple #[.string r1,.int .i64 r2]) ∧ Drawn0 w w':=by
 have H : (bosunref10_content.l0 k a0 0) = some (r1,r2):=h
 clear h
 have H':=Aside0.mk H
 clear H
 go_enter Tryd.func15,Tryd.ntmps15
 go_wp2
 go_loopg [4] k (fun kq v4 w'=>∃ (x4_1 : Int),v4 = .int .i64 x4_1 ∧ Aside0 (bosunref10_content.l0 kq a0 x4_1 = some (r1,r2)) ∧ Aside0 (kq ≤ k) ∧ Drawn0 w w')
 case atStart=>exact ⟨(0),(by first|rfl|(simp;done)|(simp [*];done)),H',⟨Nat.le_refl _⟩,by repeat (first|exact Drawn0.refl _|apply Drawn0.step)⟩
 case round =>
  clear H'
  try clear c1
  obtain ⟨x4_1,rfl,HA,HK1,⟨m1,rfl⟩⟩:=hrel
  cases gk with
  | zero=>exact absurd HA.out (by simp [bosunref10_content.l0])
  | succ k1 =>
   have H:=HA.out
   clear HA
   simp only [bosunref10_content.l0] at H
   by_cases c2 : x4_1 < (a0.size : Int)
   ·rw [if_pos c2] at H
    have c2b0 : decide (x4_1 < (a0.size : Int)) = true:=decide_eq_true c2
    clear c2
    by_cases c3 : 0 ≤ x4_1
    ·rw [if_pos c3] at H
     have c3b0 : decide (0 ≤ x4_1) = true:=decide_eq_true c3
     clear c3
     by_cases c5 : (bt a0 x4_1) < 32
     ·rw [if_pos c5] at H
      have c5b0 : decide ((bt a0 x4_1) < 32) = true:=decide_eq_true c5
      clear c5
      simp only [Option.some.injEq,Prod.mk.injEq] at H
      obtain ⟨rfl,rfl⟩:=H
      have p4 : 0 ≤ (x4_1 : Int):=of_decide_eq_true (by first|(with_reducible assumption)|assumption)
      have q4 : x4_1 < (a0.size : Int):=of_decide_eq_true (by first|(with_reducible assumption)|assumption)
      have hx4:=bt_at a0 x4_1
      replace p4:=eq_true p4
      replace q4:=eq_true q4
      go_wp2
      go_ret2
      exact ⟨by first|rfl|(simp;done)|(simp [*];done),by repeat (first|exact Drawn0.refl _|apply Drawn0.step)⟩
     ·rw [if_neg c5] at H
      have c5b0 : decide ((bt a0 x4_1) < 32) = false:=decide_eq_false c5
      clear c5
      have H':=Aside0.mk H
      clear H
      have p4 : 0 ≤ (x4_1 : Int):=of_decide_eq_true (by first|(with_reducible assumption)|assumption)
      have q4 : x4_1 < (a0.size : Int):=of_decide_eq_true (by first|(with_reducible assumption)|assumption)
      have hx4:=bt_at a0 x4_1
      replace p4:=eq_true p4
      replace q4:=eq_true q4
      go_wp2
      go_roundg k1
      case measure=>have:=HK1.out;omega
      case rel=>exact ⟨(wrap64 (x4_1 + 1)),(by first|rfl|(simp;done)|(simp [*];done)),H',⟨by have:=HK1.out;omega⟩,by repeat (first|exact Drawn0.refl _|apply Drawn0.step)⟩
    ·rw [if_neg c3] at H
     exact absurd H (by simp)
   ·rw [if_neg c2] at H
    have c2b0 : decide (x4_1 < (a0.size : Int)) = false:=decide_eq_false c2
    clear c2
    replace H:=Option.bind_eq_some_iff.mp H
    obtain ⟨t133,A60,H⟩:=H
    replace H : (if t133 = true then (bosunref10_content.l1 k1 a0 0) else (some ((⟨#[]⟩ : ByteArray),10))) = some (r1,r2):=H
    have A6:=Aside0.mk A60
    clear A60
    by_cases c7 : t133 = true
    ·subst c7
     have H1 : (bosunref10_content.l1 k1 a0 0) = some (r1,r2):=by rw [if_pos rfl] at H;exact H
     clear H
     have H:=H1
     clear H1
     have H':=Aside0.mk H
     clear H
     go_wp2_with (first|((with_reducible refine gate_callee (f:=26) rfl ?_);refine goesL_ (some 18) rfl rfl Tryd.func26 (by kernel_rfl) rfl #[.string a0] rfl (by (try simp only [List.map_toArray,List.map_cons,List.map_nil]);first|done|rfl|(simp only [List.length_drop,List.length_take];rfl)|(simp (disch:=first|omega|(simp at *;omega)) only [u64_id,i64_id,u8_id];rfl)) ?_;(with_reducible refine (bosunref05_Utf8.calls k1 a0 true _ A6.out).mono ?_);rintro e w' ⟨rfl,⟨nd,rfl⟩⟩;refine ⟨_,rfl,?_⟩))
     go_loopg [5] k1 (fun kq v5 w'=>∃ (x5_2 : Int),v5 = .int .i64 x5_2 ∧ Aside0 (bosunref10_content.l1 kq a0 x5_2 = some (r1,r2)) ∧ Aside0 (kq ≤ k1) ∧ Drawn0 w w')
     case atStart=>exact ⟨(0),(by first|rfl|(simp;done)|(simp [*];done)),H',⟨Nat.le_refl _⟩,by repeat (first|exact Drawn0.refl _|apply Drawn0.step)⟩
     case round =>
      clear H'
      try clear c1
      try clear c2
      try clear c2b0
      try clear p2
      try clear c3
      try clear c3b0
      try clear p4
      try clear q4
      try clear hx4
      try clear c5
      try clear c5b0
      try clear p6
      try clear c7
      try clear p4
      try clear q4
      obtain ⟨x5_2,rfl,HA,HK2,⟨m2,rfl⟩⟩:=hrel
      cases gk with
      | zero=>exact absurd HA.out (by simp [bosunref10_content.l1])
      | succ k2 =>
       have H:=HA.out
       clear HA
       simp only [bosunref10_content.l1] at H
       by_cases c8 : x5_2 < (a0.size : Int)
       ·rw [if_pos c8] at H
        have c8b0 : decide (x5_2 < (a0.size : Int)) = true:=decide_eq_true c8
        clear c8
        have HC9:=Aside0.mk H
        clear H
        go_upto_region 10 with (fail)
        go_cut [38] (fun v38 wc=>∃ (kq : Nat) (x38_8 : Bool),v38 = .bool x38_8 ∧ Aside0 (bosunref10_content.j2 kq a0 x5_2 x38_8 = some (r1,r2)) ∧ Aside0 (kq ≤ k2) ∧ Drawn0 w wc)
        case first =>
         have H:=HC9.out
         clear HC9
         by_cases c10 : 0 ≤ x5_2
         ·rw [if_pos c10] at H
          have c10b0 : decide (0 ≤ x5_2) = true:=decide_eq_true c10
          clear c10
          (first|rw [c10b0]|(simp only [i64_w,i32_w];rw [c10b0])|skip)
          by_cases c12 : (bt a0 x5_2) = 35
          ·rw [if_pos c12] at H
           have c12b0 : ((bt a0 x5_2) == 35) = true:=beq_iff_eq.mpr c12
           have c12b1 : ((bt a0 x5_2) != 35) = false:=bne_eq_false_iff_eq.mpr c12
           clear c12
           by_cases c13 : x5_2 = 0
           ·rw [if_pos c13] at H
            have c13b0 : (x5_2 == 0) = true:=beq_iff_eq.mpr c13
            have c13b1 : (x5_2 != 0) = false:=bne_eq_false_iff_eq.mpr c13
            clear c13
            have H':=Aside0.mk H
            clear H
            have p11 : 0 ≤ (x5_2 : Int):=of_decide_eq_true (by first|(with_reducible assumption)|assumption)
            have q11 : x5_2 < (a0.size : Int):=of_decide_eq_true (by first|(with_reducible assumption)|assumption)
            have hx11:=bt_at a0 x5_2
            replace p11:=eq_true p11
            replace q11:=eq_true q11
            go_wp2
            go_meet
            case rel=>exact ⟨_,(true),(by first|rfl|(simp;done)|(simp [*];done)),H',⟨by have:=HK1.out;have:=HK2.out;first|omega|exact Nat.le_refl _⟩,by repeat (first|exact Drawn0.refl _|apply Drawn0.step)⟩
           ·rw [if_neg c13] at H
            have c13b0 : (x5_2 == 0) = false:=beq_eq_false_iff_ne.mpr c13
            have c13b1 : (x5_2 != 0) = true:=bne_iff_ne.mpr c13
            obtain ⟨ji14,hji14⟩ : ∃ j_ : Int,(wrap64 (x5_2 - 1)) = j_:=⟨_,rfl⟩
            replace H : (if 0 ≤ (ji14) then (if (ji14) < (a0.size : Int) then (bosunref10_content.j2 k2 a0 x5_2 ((bt a0 (ji14)) == 32)) else (none)) else (none)) = some (r1,r2):=by first|(rw [hji14] at H;exact H)|(simp only [hji14] at H ⊢;exact H)
            have hji14w : (IntKind.i64.wrap (x5_2 - 1)) = ji14:=(i64_w _).trans hji14
            by_cases c15 : 0 ≤ (ji14)
            ·rw [if_pos c15] at H
             have c15b0 : decide (0 ≤ (ji14)) = true:=decide_eq_true c15
             clear c15
             by_cases c16 : (ji14) < (a0.size : Int)
             ·rw [if_pos c16] at H
              have c16b0 : decide ((ji14) < (a0.size : Int)) = true:=decide_eq_true c16
              clear c16
              have H':=Aside0.mk H
              clear H
              have p11 : 0 ≤ (x5_2 : Int):=of_decide_eq_true (by first|(with_reducible assumption)|assumption)
              have q11 : x5_2 < (a0.size : Int):=of_decide_eq_true (by first|(with_reducible assumption)|assumption)
              have hx11:=bt_at a0 x5_2
              replace p11:=eq_true p11
              replace q11:=eq_true q11
              have p17 : 0 ≤ ((ji14) : Int):=of_decide_eq_true (by first|(with_reducible assumption)|assumption)
              have q17 : (ji14) < (a0.size : Int):=of_decide_eq_true (by first|(with_reducible assumption)|assumption)
              have hx17:=bt_at a0 (ji14)
              replace p17:=eq_true p17
              replace q17:=eq_true q17
              go_wp2
              go_meet
              case rel=>exact ⟨_,(((bt a0 (ji14)) == 32)),(by first|rfl|(simp;done)|(simp only [← hji14] <;> (first|rfl|simp))|(simp [*];done)),H',⟨by have:=HK1.out;have:=HK2.out;first|omega|exact Nat.le_refl _⟩,by repeat (first|exact Drawn0.refl _|apply Drawn0.step)⟩
             ·rw [if_neg c16] at H
              exact absurd H (by simp)
            ·rw [if_neg c15] at H
             exact absurd H (by simp)
          ·rw [if_neg c12] at H
           have c12b0 : ((bt a0 x5_2) == 35) = false:=beq_eq_false_iff_ne.mpr c12
           have c12b1 : ((bt a0 x5_2) != 35) = true:=bne_iff_ne.mpr c12
           have H':=Aside0.mk H
           clear H
           have p11 : 0 ≤ (x5_2 : Int):=of_decide_eq_true (by first|(with_reducible assumption)|assumption)
           have q11 : x5_2 < (a0.size : Int):=of_decide_eq_true (by first|(with_reducible assumption)|assumption)
           have hx11:=bt_at a0 x5_2
           replace p11:=eq_true p11
           replace q11:=eq_true q11
           go_wp2
           go_meet
           case rel=>exact ⟨_,(false),(by first|rfl|(simp;done)|(simp [*];done)),H',⟨by have:=HK1.out;have:=HK2.out;first|omega|exact Nat.le_refl _⟩,by repeat (first|exact Drawn0.refl _|apply Drawn0.step)⟩
         ·rw [if_neg c10] at H
          exact absurd H (by simp)
        case rest =>
         clear HC9
         try clear c1
         try clear p1
         try clear q1
         try clear hx1
         try clear c2
         try clear c2b0
         try clear p2
         try clear c3
         try clear c3b0
         try clear p4
         try clear q4
         try clear hx4
         try clear c5
         try clear c5b0
         try clear p6
         try clear c7
         try clear c8
         try clear c8b0
         try clear c10
         try clear c10b0
         try clear p11
         try clear q11
         try clear hx11
         try clear c12
         try clear c12b0
         try clear c12b1
         try clear c13
         try clear c13b0
         try clear c13b1
         try clear c15
         try clear c15b0
         try clear c16
         try clear c16b0
         try clear p17
         try clear q17
         try clear hx17
         try clear p11
         try clear p17
         try clear p2
         try clear p4
         try clear p6
         try clear q11
         try clear q17
         try clear q4
         obtain ⟨kq,x38_8,rfl,HA,HJ8,⟨mc8,rfl⟩⟩:=hcut
         cases kq with
         | zero=>exact absurd HA.out (by simp [bosunref10_content.j2])
         | succ kj8 =>
          have H:=HA.out
          clear HA
          simp only [bosunref10_content.j2] at H
          by_cases c18 : x38_8 = true
          ·subst c18
           have H1 : (if 0 ≤ x5_2 then (if x5_2 ≤ (a0.size : Int) then (some (a0.extract 0 (x5_2 : Int).toNat,0)) else (none)) else (none)) = some (r1,r2):=by rw [if_pos rfl] at H;exact H
           clear H
           have H:=H1
           clear H1
           by_cases c19 : 0 ≤ x5_2
           ·rw [if_pos c19] at H
            have c19b0:=eq_true c19
            have c19b1 : decide (0 ≤ x5_2) = true:=decide_eq_true c19
            clear c19
            by_cases c20 : x5_2 ≤ (a0.size : Int)
            ·rw [if_pos c20] at H
             have c20b0:=eq_true c20
             have c20b1 : decide (x5_2 ≤ (a0.size : Int)) = true:=decide_eq_true c20
             clear c20
             simp only [Option.some.injEq,Prod.mk.injEq] at H
             obtain ⟨rfl,rfl⟩:=H
             go_wp2
             go_ret2
             exact ⟨by first|rfl|(simp;done)|(simp [*];done),by repeat (first|exact Drawn0.refl _|apply Drawn0.step)⟩
            ·rw [if_neg c20] at H
             exact absurd H (by simp)
           ·rw [if_neg c19] at H
            exact absurd H (by simp)
          ·replace c18:=Bool.eq_false_iff.mpr c18
           subst c18
           have H1 : (if 0 ≤ x5_2 then (if x5_2 < (a0.size : Int) then (if (bt a0 x5_2) = 34 then (bosunref10_content.l2 kj8 a0 (wrap64 (x5_2 + 1))) else (bosunref10_content.l1 kj8 a0 (wrap64 (x5_2 + 1)))) else (none)) else (none)) = some (r1,r2):=by rw [if_neg (show ¬ (false = true) by decide)] at H;exact H
           clear H
           have H:=H1
           clear H1
           by_cases c21 : 0 ≤ x5_2
           ·rw [if_pos c21] at H
            have c21b0 : decide (0 ≤ x5_2) = true:=decide_eq_true c21
            clear c21
            by_cases c22 : x5_2 < (a0.size : Int)
            ·rw [if_pos c22] at H
             have c22b0 : decide (x5_2 < (a0.size : Int)) = true:=decide_eq_true c22
             clear c22
             by_cases c24 : (bt a0 x5_2) = 34
             ·rw [if_pos c24] at H
              have c24b0 : ((bt a0 x5_2) == 34) = true:=beq_iff_eq.mpr c24
              have c24b1 : ((bt a0 x5_2) != 34) = false:=bne_eq_false_iff_eq.mpr c24
              clear c24
              have H':=Aside0.mk H
              clear H
              have p23 : 0 ≤ (x5_2 : Int):=of_decide_eq_true (by first|(with_reducible assumption)|assumption)
              have q23 : x5_2 < (a0.size : Int):=of_decide_eq_true (by first|(with_reducible assumption)|assumption)
              have hx23:=bt_at a0 x5_2
              replace p23:=eq_true p23
              replace q23:=eq_true q23
              go_wp2
              go_loopg [6] kj8 (fun kq v6 w'=>∃ (x6_4 : Int),v6 = .int .i64 x6_4 ∧ Aside0 (bosunref10_content.l2 kq a0 x6_4 = some (r1,r2)) ∧ Aside0 (kq ≤ kj8) ∧ Drawn0 w w')
              case atStart=>exact ⟨(wrap64 (x5_2 + 1)),(by first|rfl|(simp;done)|(simp [*];done)),H',⟨Nat.le_refl _⟩,by repeat (first|exact Drawn0.refl _|apply Drawn0.step)⟩
              case round =>
               clear H'
               try clear c1
               try clear p1
               try clear q1
               try clear hx1
               try clear c2
               try clear c2b0
               try clear p2
               try clear q2
               try clear hx2
               try clear c3
               try clear c3b0
               try clear p4
               try clear q4
               try clear hx4
               try clear c5
               try clear c5b0
               try clear p6
               try clear c7
               try clear c8
               try clear c8b0
               try clear c10
               try clear c10b0
               try clear p11
               try clear q11
               try clear hx11
               try clear c12
               try clear c12b0
               try clear c12b1
               try clear c13
               try clear c13b0
               try clear c13b1
               try clear c15
               try clear c15b0
               try clear c16
               try clear c16b0
               try clear p17
               try clear q17
               try clear hx17
               try clear c18
               try clear c19
               try clear c19b0
               try clear c19b1
               try clear c20
               try clear c20b0
               try clear c20b1
               try clear c21
               try clear c21b0
               try clear c22
               try clear c22b0
               try clear p23
               try clear q23
               try clear hx23
               try clear c24
               try clear c24b0
               try clear c24b1
               try clear p1
               try clear p11
               try clear p17
               try clear p2
               try clear p23
               try clear p4
               try clear p6
               try clear q1
               try clear q11
               try clear q17
               try clear q23
               try clear q4
               obtain ⟨x6_4,rfl,HA,HK4,⟨m4,rfl⟩⟩:=hrel
               cases gk with
               | zero=>exact absurd HA.out (by simp [bosunref10_content.l2])
               | succ k4 =>
                have H:=HA.out
                clear HA
                simp only [bosunref10_content.l2] at H
                have HC25:=Aside0.mk H
                clear H
                go_upto_region 15 with (fail)
                go_cut [59] (fun v59 wc=>∃ (kq : Nat) (x59_24 : Bool),v59 = .bool x59_24 ∧ Aside0 (bosunref10_content.j4 kq a0 x6_4 x59_24 = some (r1,r2)) ∧ Aside0 (kq ≤ k4) ∧ Drawn0 w wc)
                case first =>
                 have H:=HC25.out
                 clear HC25
                 by_cases c26 : x6_4 < (a0.size : Int)
                 ·rw [if_pos c26] at H
                  have c26b0 : decide (x6_4 < (a0.size : Int)) = true:=decide_eq_true c26
                  clear c26
                  (first|rw [c26b0]|(simp only [i64_w,i32_w];rw [c26b0])|skip)
                  by_cases c27 : 0 ≤ x6_4
                  ·rw [if_pos c27] at H
                   have c27b0 : decide (0 ≤ x6_4) = true:=decide_eq_true c27
                   clear c27
                   have H':=Aside0.mk H
                   clear H
                   have p28 : 0 ≤ (x6_4 : Int):=of_decide_eq_true (by first|(with_reducible assumption)|assumption)
                   have q28 : x6_4 < (a0.size : Int):=of_decide_eq_true (by first|(with_reducible assumption)|assumption)
                   have hx28:=bt_at a0 x6_4
                   replace p28:=eq_true p28
                   replace q28:=eq_true q28
                   go_wp2
                   go_meet
                   case rel=>exact ⟨_,(((bt a0 x6_4) != 34)),(by first|rfl|(simp;done)|(simp [*];done)),H',⟨by have:=HK1.out;have:=HK2.out;have:=HJ8.out;have:=HK4.out;first|omega|exact Nat.le_refl _⟩,by repeat (first|exact Drawn0.refl _|apply Drawn0.step)⟩
                  ·rw [if_neg c27] at H
                   exact absurd H (by simp)
                 ·rw [if_neg c26] at H
                  have c26b0 : decide (x6_4 < (a0.size : Int)) = false:=decide_eq_false c26
                  clear c26
                  (first|rw [c26b0]|(simp only [i64_w,i32_w];rw [c26b0])|skip)
                  have H':=Aside0.mk H
                  clear H
                  go_wp2
                  go_meet
                  case rel=>exact ⟨_,(false),(by first|rfl|(simp;done)|(simp [*];done)),H',⟨by have:=HK1.out;have:=HK2.out;have:=HJ8.out;have:=HK4.out;first|omega|exact Nat.le_refl _⟩,by repeat (first|exact Drawn0.refl _|apply Drawn0.step)⟩
                case rest =>
                 clear HC25
                 try clear c1
                 try clear p1
                 try clear q1
                 try clear hx1
                 try clear c2
                 try clear c2b0
                 try clear p2
                 try clear q2
                 try clear hx2
                 try clear c3
                 try clear c3b0
                 try clear p4
                 try clear q4
                 try clear hx4
                 try clear c5
                 try clear c5b0
                 try clear p6
                 try clear c7
                 try clear c8
                 try clear c8b0
                 try clear c10
                 try clear c10b0
                 try clear p11
                 try clear q11
                 try clear hx11
                 try clear c12
                 try clear c12b0
                 try clear c12b1
                 try clear c13
                 try clear c13b0
                 try clear c13b1
                 try clear c15
                 try clear c15b0
                 try clear c16
                 try clear c16b0
                 try clear p17
                 try clear q17
                 try clear hx17
                 try clear c18
                 try clear c19
                 try clear c19b0
                 try clear c19b1
                 try clear c20
                 try clear c20b0
                 try clear c20b1
                 try clear c21
                 try clear c21b0
                 try clear c22
                 try clear c22b0
                 try clear p23
                 try clear q23
                 try clear hx23
                 try clear c24
                 try clear c24b0
                 try clear c24b1
                 try clear c26
                 try clear c26b0
                 try clear c27
                 try clear c27b0
                 try clear p28
                 try clear q28
                 try clear hx28
                 try clear p1
                 try clear p11
                 try clear p17
                 try clear p2
                 try clear p23
                 try clear p28
                 try clear p4
                 try clear p6
                 try clear q1
                 try clear q11
                 try clear q17
                 try clear q2
                 try clear q23
                 try clear q28
                 try clear q4
                 obtain ⟨kq,x59_24,rfl,HA,HJ24,⟨mc24,rfl⟩⟩:=hcut
                 cases kq with
                 | zero=>exact absurd HA.out (by simp [bosunref10_content.j4])
                 | succ kj24 =>
                  have H:=HA.out
                  clear HA
                  simp only [bosunref10_content.j4] at H
                  by_cases c29 : x59_24 = true
                  ·subst c29
                   have H1 : (if 0 ≤ x6_4 then (if x6_4 < (a0.size : Int) then (if (bt a0 x6_4) = 92 then (bosunref10_content.l2 kj24 a0 (wrap64 ((wrap64 (x6_4 + 1)) + 1))) else (bosunref10_content.l2 kj24 a0 (wrap64 (x6_4 + 1)))) else (none)) else (none)) = some (r1,r2):=by rw [if_pos rfl] at H;exact H
                   clear H
                   have H:=H1
                   clear H1
                   by_cases c30 : 0 ≤ x6_4
                   ·rw [if_pos c30] at H
                    have c30b0 : decide (0 ≤ x6_4) = true:=decide_eq_true c30
                    clear c30
                    by_cases c31 : x6_4 < (a0.size : Int)
                    ·rw [if_pos c31] at H
                     have c31b0 : decide (x6_4 < (a0.size : Int)) = true:=decide_eq_true c31
                     clear c31
                     by_cases c33 : (bt a0 x6_4) = 92
                     ·rw [if_pos c33] at H
                      have c33b0 : ((bt a0 x6_4) == 92) = true:=beq_iff_eq.mpr c33
                      have c33b1 : ((bt a0 x6_4) != 92) = false:=bne_eq_false_iff_eq.mpr c33
                      clear c33
                      have H':=Aside0.mk H
                      clear H
                      have p32 : 0 ≤ (x6_4 : Int):=of_decide_eq_true (by first|(with_reducible assumption)|assumption)
                      have q32 : x6_4 < (a0.size : Int):=of_decide_eq_true (by first|(with_reducible assumption)|assumption)
                      have hx32:=bt_at a0 x6_4
                      replace p32:=eq_true p32
                      replace q32:=eq_true q32
                      go_wp2
                      go_roundg kj24
                      case measure=>have:=HK1.out;have:=HK2.out;have:=HJ8.out;have:=HK4.out;have:=HJ24.out;omega
                      case rel=>exact ⟨(wrap64 ((wrap64 (x6_4 + 1)) + 1)),(by first|rfl|(simp;done)|(simp [*];done)),H',⟨by have:=HK1.out;have:=HK2.out;have:=HJ8.out;have:=HK4.out;have:=HJ24.out;omega⟩,by repeat (first|exact Drawn0.refl _|apply Drawn0.step)⟩
                     ·rw [if_neg c33] at H
                      have c33b0 : ((bt a0 x6_4) == 92) = false:=beq_eq_false_iff_ne.mpr c33
                      have c33b1 : ((bt a0 x6_4) != 92) = true:=bne_iff_ne.mpr c33
                      have H':=Aside0.mk H
                      clear H
                      have p32 : 0 ≤ (x6_4 : Int):=of_decide_eq_true (by first|(with_reducible assumption)|assumption)
                      have q32 : x6_4 < (a0.size : Int):=of_decide_eq_true (by first|(with_reducible assumption)|assumption)
                      have hx32:=bt_at a0 x6_4
                      replace p32:=eq_true p32
                      replace q32:=eq_true q32
                      go_wp2
                      go_roundg kj24
                      case measure=>have:=HK1.out;have:=HK2.out;have:=HJ8.out;have:=HK4.out;have:=HJ24.out;omega
                      case rel=>exact ⟨(wrap64 (x6_4 + 1)),(by first|rfl|(simp;done)|(simp [*];done)),H',⟨by have:=HK1.out;have:=HK2.out;have:=HJ8.out;have:=HK4.out;have:=HJ24.out;omega⟩,by repeat (first|exact Drawn0.refl _|apply Drawn0.step)⟩
                    ·rw [if_neg c31] at H
                     exact absurd H (by simp)
                   ·rw [if_neg c30] at H
                    exact absurd H (by simp)
                  ·replace c29:=Bool.eq_false_iff.mpr c29
                   subst c29
                   have H1 : (if x6_4 ≥ (a0.size : Int) then (some ((⟨#[]⟩ : ByteArray),11)) else (bosunref10_content.l1 kj24 a0 (wrap64 (x6_4 + 1)))) = some (r1,r2):=by rw [if_neg (show ¬ (false = true) by decide)] at H;exact H
                   clear H
                   have H:=H1
                   clear H1
                   by_cases c34 : x6_4 ≥ (a0.size : Int)
                   ·rw [if_pos c34] at H
                    have c34b0 : decide ((a0.size : Int) ≤ x6_4) = true:=decide_eq_true c34
                    clear c34
                    simp only [Option.some.injEq,Prod.mk.injEq] at H
                    obtain ⟨rfl,rfl⟩:=H
                    go_wp2
                    go_ret2
                    exact ⟨by first|rfl|(simp;done)|(simp [*];done),by repeat (first|exact Drawn0.refl _|apply Drawn0.step)⟩
                   ·rw [if_neg c34] at H
                    have c34b0 : decide ((a0.size : Int) ≤ x6_4) = false:=decide_eq_false c34
                    clear c34
                    have H':=Aside0.mk H
                    clear H
                    go_wp2
                    go_roundg kj24
                    case measure=>have:=HK1.out;have:=HK2.out;have:=HJ8.out;have:=HK4.out;have:=HJ24.out;omega
                    case rel=>exact ⟨(wrap64 (x6_4 + 1)),(by first|rfl|(simp;done)|(simp [*];done)),H',⟨by have:=HK1.out;have:=HK2.out;have:=HJ8.out;have:=HK4.out;have:=HJ24.out;omega⟩,by repeat (first|exact Drawn0.refl _|apply Drawn0.step)⟩
             ·rw [if_neg c24] at H
              have c24b0 : ((bt a0 x5_2) == 34) = false:=beq_eq_false_iff_ne.mpr c24
              have c24b1 : ((bt a0 x5_2) != 34) = true:=bne_iff_ne.mpr c24
              have H':=Aside0.mk H
              clear H
              have p23 : 0 ≤ (x5_2 : Int):=of_decide_eq_true (by first|(with_reducible assumption)|assumption)
              have q23 : x5_2 < (a0.size : Int):=of_decide_eq_true (by first|(with_reducible assumption)|assumption)
              have hx23:=bt_at a0 x5_2
              replace p23:=eq_true p23
              replace q23:=eq_true q23
              go_wp2
              go_roundg kj8
              case measure=>have:=HK1.out;have:=HK2.out;have:=HJ8.out;omega
              case rel=>exact ⟨(wrap64 (x5_2 + 1)),(by first|rfl|(simp;done)|(simp [*];done)),H',⟨by have:=HK1.out;have:=HK2.out;have:=HJ8.out;omega⟩,by repeat (first|exact Drawn0.refl _|apply Drawn0.step)⟩
            ·rw [if_neg c22] at H
             exact absurd H (by simp)
           ·rw [if_neg c21] at H
            exact absurd H (by simp)
       ·rw [if_neg c8] at H
        have c8b0 : decide (x5_2 < (a0.size : Int)) = false:=decide_eq_false c8
        clear c8
        simp only [Option.some.injEq,Prod.mk.injEq] at H
        obtain ⟨rfl,rfl⟩:=H
        go_wp2
        go_ret2
        exact ⟨by first|rfl|(simp;done)|(simp [*];done),by repeat (first|exact Drawn0.refl _|apply Drawn0.step)⟩
    ·replace c7:=Bool.eq_false_iff.mpr c7
     subst c7
     have H1 : (some ((⟨#[]⟩ : ByteArray),10)) = some (r1,r2):=by rw [if_neg (show ¬ (false = true) by decide)] at H;exact H
     clear H
     have H:=H1
     clear H1
     simp only [Option.some.injEq,Prod.mk.injEq] at H
     obtain ⟨rfl,rfl⟩:=H
     go_wp2_with (first|((with_reducible refine gate_callee (f:=26) rfl ?_);refine goesL_ (some 18) rfl rfl Tryd.func26 (by kernel_rfl) rfl #[.string a0] rfl (by (try simp only [List.map_toArray,List.map_cons,List.map_nil]);first|done|rfl|(simp only [List.length_drop,List.length_take];rfl)|(simp (disch:=first|omega|(simp at *;omega)) only [u64_id,i64_id,u8_id];rfl)) ?_;(with_reducible refine (bosunref05_Utf8.calls k1 a0 false _ A6.out).mono ?_);rintro e w' ⟨rfl,⟨nd,rfl⟩⟩;refine ⟨_,rfl,?_⟩))
     go_ret2
     exact ⟨by first|rfl|(simp;done)|(simp [*];done),by repeat (first|exact Drawn0.refl _|apply Drawn0.step)⟩

end Go.Proofs.YticabhjmojcfoaaDoor.GUt
