/- Written by this session's own program (wip/gen.py) out of the translation: plain Lean functions of the Go functions, and proofs that the calls come to their answers. No conditions beside those in the statements. -/
import Derived.Test.YtpmbdcljphpcnaaDoorGC2x0
import Derived.Test.YtpmbdcljphpcnaaDoorGC2x3
import Derived.Test.YtpmbdcljphpcnaaDoorGC2Index
namespace Go.Proofs.YtpmbdcljphpcnaaDoor.GC2
open Go.RowKit Go.Proofs.YtpmbdcljphpcnaaDoorW.PrintWords Go.Proofs.YtpmbdcljphpcnaaDoorW.PrintLast Go.Proofs.YtpmbdcljphpcnaaDoorW.PrintMore
attribute [local go_sem] max2_int min2_int max_two min_two max_three min_three max_four min_four   -- for this text's walks alone
set_option linter.unusedVariables false
set_option linter.unusedSimpArgs false

/-! ### dns_Image: function 42 -/
mutual
def dns_Image.j0 : Nat → ByteArray → Bool → Option (Bool)
 | 0,_,_=>none
 | k + 1,x0,x22=>if x22 = true then (some false) else (dns_Image.l0 k x0 (x0.size : Int) 0)
def dns_Image.l0 : Nat → ByteArray → Int → Int → Option (Bool)
 | 0,_,_,_=>none
 | k + 1,x0,x24,x25=>if x25 < x24 then (if 0 ≤ x25 then (if x25 < (x0.size : Int) then ((dns_small.f (bt x0 x25)).bind fun t114=>(if t114 = true then (dns_Image.l0 k x0 x24 (wrap64 (x25 + 1))) else ((dns_great.f (bt x0 x25)).bind fun t115=>(if t115 = true then (dns_Image.l0 k x0 x24 (wrap64 (x25 + 1))) else ((dns_digit.f (bt x0 x25)).bind fun t116=>(if t116 = true then (dns_Image.l0 k x0 x24 (wrap64 (x25 + 1))) else ((strings_IndexByte.f (⟨#[46,95,45,47,58,64]⟩ : ByteArray) (bt x0 x25)).bind fun t117=>(if t117 < 0 then (some false) else (dns_Image.l0 k x0 x24 (wrap64 (x25 + 1))))))))))) else (none)) else (none)) else (some true)
end
def dns_Image.f (k : Nat) (a0 : ByteArray) : Option (Bool):=if a0.toList = ([] : List UInt8) then (dns_Image.j0 k a0 true) else (if (a0.size : Int) > 255 then (dns_Image.j0 k a0 true) else (if 0 < (a0.size : Int) then ((dns_small.f (bt a0 0)).bind fun t112=>(if t112 = true then (dns_Image.j0 k a0 false) else ((dns_digit.f (bt a0 0)).bind fun t113=>(dns_Image.j0 k a0 (!t113))))) else (none)))
theorem dns_Image.mono_l : ∀ k,(∀ y0 y1,LeO (dns_Image.j0 k y0 y1) (dns_Image.j0 (k + 1) y0 y1)) ∧ (∀ y0 y1 y2,LeO (dns_Image.l0 k y0 y1 y2) (dns_Image.l0 (k + 1) y0 y1 y2))
 | 0=>⟨fun _ _ r h=>by simp [dns_Image.j0] at h,fun _ _ _ r h=>by simp [dns_Image.l0] at h⟩
 | k + 1=>by
  obtain ⟨ih0,ih1⟩:=dns_Image.mono_l k
  refine ⟨?_,?_⟩
  ·intro y0 y1
   unfold dns_Image.j0
   repeat' first
   | (with_reducible exact ih0 _ _)
   | (with_reducible exact ih1 _ _ _)
   | (with_reducible exact LeO.refl _)
   | (with_reducible exact LeO.none _)
   | (with_reducible refine LeO.ite ?_ ?_)
   | (with_reducible refine LeO.bind ?_ (fun _=>?_))
   | exact ih0 _ _
   | exact ih1 _ _ _
   | exact LeO.none _
   | refine LeO.ite ?_ ?_
   | refine LeO.bind ?_ (fun _=>?_)
  ·intro y0 y1 y2
   unfold dns_Image.l0
   repeat' first
   | (with_reducible exact ih0 _ _)
   | (with_reducible exact ih1 _ _ _)
   | (with_reducible exact LeO.refl _)
   | (with_reducible exact LeO.none _)
   | (with_reducible refine LeO.ite ?_ ?_)
   | (with_reducible refine LeO.bind ?_ (fun _=>?_))
   | exact ih0 _ _
   | exact ih1 _ _ _
   | exact LeO.none _
   | refine LeO.ite ?_ ?_
   | refine LeO.bind ?_ (fun _=>?_)
theorem dns_Image.mono : ∀ a0 k,LeO (dns_Image.f k a0) (dns_Image.f (k + 1) a0):=by
 intro a0 k
 obtain ⟨ih0,ih1⟩:=dns_Image.mono_l k
 unfold dns_Image.f
 repeat' first
   | (with_reducible exact ih0 _ _)
   | (with_reducible exact ih1 _ _ _)
   | (with_reducible exact LeO.refl _)
   | (with_reducible exact LeO.none _)
   | (with_reducible refine LeO.ite ?_ ?_)
   | (with_reducible refine LeO.bind ?_ (fun _=>?_))
   | exact ih0 _ _
   | exact ih1 _ _ _
   | exact LeO.none _
   | refine LeO.ite ?_ ?_
   | refine LeO.bind ?_ (fun _=>?_)
set_option maxHeartbeats 8000000 in
set_option maxRecDepth 100000 in
theorem dns_Image.calls (k : Nat) (a0 : ByteArray) (r : Bool) (w : World) (h : dns_Image.f k a0 = some r) :
  Calls Tryd.prog 42 #[.string a0] w fun e w'=>e = .returned (.bool r) ∧ Drawn0 w w':=by
 have H : (if a0.toList = ([] : List UInt8) then (dns_Image.j0 k a0 true) else (if (a0.size : Int) > 255 then (dns_Image.j0 k a0 true) else (if 0 < (a0.size : Int) then ((dns_small.f (bt a0 0)).bind fun t112=>(if t112 = true then (dns_Image.j0 k a0 false) else ((dns_digit.f (bt a0 0)).bind fun t113=>(dns_Image.j0 k a0 (!t113))))) else (none)))) = some r:=h
 clear h
 have HC2:=Aside0.mk H
 clear H
 go_enter Tryd.func42,Tryd.ntmps42
 go_upto_region 1 with (fail)
 go_cut [22] (fun v22 wc=>∃ (kq : Nat) (x22_1 : Bool),v22 = .bool x22_1 ∧ Aside0 (dns_Image.j0 kq a0 x22_1 = some r) ∧ Aside0 (kq ≤ k) ∧ Drawn0 w wc)
 case first =>
  have H:=HC2.out
  clear HC2
  by_cases c3 : a0.toList = ([] : List UInt8)
  ·rw [if_pos c3] at H
   have c3b0 : (a0.toList == ([] : List UInt8)) = true:=beq_iff_eq.mpr c3
   have c3b1 : (a0.toList != ([] : List UInt8)) = false:=bne_eq_false_iff_eq.mpr c3
   clear c3
   (first|rw [c3b0]|(simp only [i64_w,i32_w];rw [c3b0])|skip)
   have H':=Aside0.mk H
   clear H
   go_wp2
   go_meet
   case rel=>exact ⟨_,(true),(by first|rfl|(simp;done)|(simp [*];done)),H',⟨by first|omega|exact Nat.le_refl _⟩,by repeat (first|exact Drawn0.refl _|apply Drawn0.step)⟩
  ·rw [if_neg c3] at H
   have c3b0 : (a0.toList == ([] : List UInt8)) = false:=beq_eq_false_iff_ne.mpr c3
   have c3b1 : (a0.toList != ([] : List UInt8)) = true:=bne_iff_ne.mpr c3
   (first|rw [c3b0]|(simp only [i64_w,i32_w];rw [c3b0])|skip)
   by_cases c4 : (a0.size : Int) > 255
   ·rw [if_pos c4] at H
    have c4b0 : decide (255 < (a0.size : Int)) = true:=decide_eq_true c4
    have c4b1 : decide (255 < a0.size) = true:=decide_eq_true (by omega)
    clear c4
    have H':=Aside0.mk H
    clear H
    go_wp2
    go_meet
    case rel=>exact ⟨_,(true),(by first|rfl|(simp;done)|(simp [*];done)),H',⟨by first|omega|exact Nat.le_refl _⟩,by repeat (first|exact Drawn0.refl _|apply Drawn0.step)⟩
   ·rw [if_neg c4] at H
    have c4b0 : decide (255 < (a0.size : Int)) = false:=decide_eq_false c4
    have c4b1 : decide (255 < a0.size) = false:=decide_eq_false (by omega)
    clear c4
    by_cases c5 : 0 < (a0.size : Int)
    ·rw [if_pos c5] at H
     have c5b0 : decide (0 < (a0.size : Int)) = true:=decide_eq_true c5
     have c5b1 : decide (0 < a0.size) = true:=decide_eq_true (by omega)
     clear c5
     replace H:=Option.bind_eq_some_iff.mp H
     obtain ⟨t112,A70,H⟩:=H
     replace H : (if t112 = true then (dns_Image.j0 k a0 false) else ((dns_digit.f (bt a0 0)).bind fun t113=>(dns_Image.j0 k a0 (!t113)))) = some r:=H
     have A7:=Aside0.mk A70
     clear A70
     by_cases c8 : t112 = true
     ·subst c8
      have H1 : (dns_Image.j0 k a0 false) = some r:=by rw [if_pos rfl] at H;exact H
      clear H
      have H:=H1
      clear H1
      have H':=Aside0.mk H
      clear H
      have p6 : 0 ≤ (0 : Int):=(by omega)
      have q6 : 0 < a0.size:=(by have : (0 : Int) < (a0.size : Int):=of_decide_eq_true (by first|(with_reducible assumption)|assumption);omega)
      have hx6 : ∀ h : 0 < a0.size,((a0[0]'h).toNat : Int) = bt a0 0:=bt_at a0 0
      clear p6
      have qi6 : (0 < (a0.size : Int)) = True:=eq_true (of_decide_eq_true (by first|(with_reducible assumption)|assumption))
      replace q6:=eq_true q6
      go_wp2_with (first|(go_at_call 73;(with_reducible refine (dns_small.calls (bt a0 0) true _ A7.out).mono ?_);rintro e w' ⟨rfl,⟨nd,rfl⟩⟩))
      go_meet
      case rel=>exact ⟨_,(false),(by first|rfl|(simp;done)|(simp [*];done)),H',⟨by first|omega|exact Nat.le_refl _⟩,by repeat (first|exact Drawn0.refl _|apply Drawn0.step)⟩
     ·replace c8:=Bool.eq_false_iff.mpr c8
      subst c8
      have H1 : ((dns_digit.f (bt a0 0)).bind fun t113=>(dns_Image.j0 k a0 (!t113))) = some r:=by rw [if_neg (show ¬ (false = true) by decide)] at H;exact H
      clear H
      have H:=H1
      clear H1
      replace H:=Option.bind_eq_some_iff.mp H
      obtain ⟨t113,A100,H⟩:=H
      replace H : (dns_Image.j0 k a0 (!t113)) = some r:=H
      have A10:=Aside0.mk A100
      clear A100
      have H':=Aside0.mk H
      clear H
      have p6 : 0 ≤ (0 : Int):=(by omega)
      have q6 : 0 < a0.size:=(by have : (0 : Int) < (a0.size : Int):=of_decide_eq_true (by first|(with_reducible assumption)|assumption);omega)
      have hx6 : ∀ h : 0 < a0.size,((a0[0]'h).toNat : Int) = bt a0 0:=bt_at a0 0
      clear p6
      have qi6 : (0 < (a0.size : Int)) = True:=eq_true (of_decide_eq_true (by first|(with_reducible assumption)|assumption))
      replace q6:=eq_true q6
      go_wp2_with (first|(go_at_call 73;(with_reducible refine (dns_small.calls (bt a0 0) false _ A7.out).mono ?_);rintro e w' ⟨rfl,⟨nd,rfl⟩⟩;have p9 : 0 ≤ (0 : Int):=(by omega);have q9 : 0 < a0.size:=(by have : (0 : Int) < (a0.size : Int):=of_decide_eq_true (by first|(with_reducible assumption)|assumption);omega);have hx9 : ∀ h : 0 < a0.size,((a0[0]'h).toNat : Int) = bt a0 0:=bt_at a0 0;clear p9;have qi9 : (0 < (a0.size : Int)) = True:=eq_true (of_decide_eq_true (by first|(with_reducible assumption)|assumption));replace q9:=eq_true q9)|(go_at_call 74;(with_reducible refine (dns_digit.calls (bt a0 0) t113 _ A10.out).mono ?_);rintro e w' ⟨rfl,⟨nd,rfl⟩⟩))
      go_meet
      case rel=>exact ⟨_,(!t113),(by first|rfl|(simp;done)|(simp [*];done)),H',⟨by first|omega|exact Nat.le_refl _⟩,by repeat (first|exact Drawn0.refl _|apply Drawn0.step)⟩
    ·rw [if_neg c5] at H
     exact absurd H (by simp)
 case rest =>
  clear HC2
  try clear p2
  try clear c3
  try clear c3b0
  try clear c3b1
  try clear c4
  try clear c4b0
  try clear c4b1
  try clear c5
  try clear c5b0
  try clear c5b1
  try clear p6
  try clear q6
  try clear hx6
  try clear qi6
  try clear c8
  try clear p9
  try clear q9
  try clear hx9
  try clear qi9
  try clear p6
  try clear p9
  try clear q6
  try clear q9
  obtain ⟨kq,x22_1,rfl,HA,HJ1,⟨mc1,rfl⟩⟩:=hcut
  cases kq with
  | zero=>exact absurd HA.out (by simp [dns_Image.j0])
  | succ kj1 =>
   have H:=HA.out
   clear HA
   simp only [dns_Image.j0] at H
   by_cases c11 : x22_1 = true
   ·subst c11
    have H1 : (some false) = some r:=by rw [if_pos rfl] at H;exact H
    clear H
    have H:=H1
    clear H1
    obtain rfl:=Option.some.inj H
    go_wp2
    go_ret
    exact ⟨by first|rfl|(simp;done)|(simp [*];done),by repeat (first|exact Drawn0.refl _|apply Drawn0.step)⟩
   ·replace c11:=Bool.eq_false_iff.mpr c11
    subst c11
    have H1 : (dns_Image.l0 kj1 a0 (a0.size : Int) 0) = some r:=by rw [if_neg (show ¬ (false = true) by decide)] at H;exact H
    clear H
    have H:=H1
    clear H1
    have H':=Aside0.mk H
    clear H
    go_wp2
    go_loopg [25] kj1 (fun kq v25 w'=>∃ (x25_2 : Int),v25 = .int .i64 x25_2 ∧ Aside0 (dns_Image.l0 kq a0 (a0.size : Int) x25_2 = some r) ∧ Aside0 (kq ≤ kj1) ∧ Drawn0 w w')
    case atStart=>exact ⟨(0),(by first|rfl|(simp;done)|(simp [*];done)),H',⟨Nat.le_refl _⟩,by repeat (first|exact Drawn0.refl _|apply Drawn0.step)⟩
    case round =>
     clear H'
     try clear c1
     try clear p2
     try clear c3
     try clear c3b0
     try clear c3b1
     try clear c4
     try clear c4b0
     try clear c4b1
     try clear c5
     try clear c5b0
     try clear c5b1
     try clear p6
     try clear q6
     try clear hx6
     try clear qi6
     try clear c8
     try clear p9
     try clear q9
     try clear hx9
     try clear qi9
     try clear c11
     try clear p2
     try clear p6
     try clear p9
     try clear q6
     try clear q9
     obtain ⟨x25_2,rfl,HA,HK2,⟨m2,rfl⟩⟩:=hrel
     cases gk with
     | zero=>exact absurd HA.out (by simp [dns_Image.l0])
     | succ k2 =>
      have H:=HA.out
      clear HA
      simp only [dns_Image.l0] at H
      by_cases c12 : x25_2 < (a0.size : Int)
      ·rw [if_pos c12] at H
       have c12b0 : decide (x25_2 < (a0.size : Int)) = true:=decide_eq_true c12
       clear c12
       by_cases c13 : 0 ≤ x25_2
       ·rw [if_pos c13] at H
        have c13b0 : decide (0 ≤ x25_2) = true:=decide_eq_true c13
        clear c13
        by_cases c14 : x25_2 < (a0.size : Int)
        ·rw [if_pos c14] at H
         have c14b0 : decide (x25_2 < (a0.size : Int)) = true:=decide_eq_true c14
         clear c14
         replace H:=Option.bind_eq_some_iff.mp H
         obtain ⟨t114,A160,H⟩:=H
         replace H : (if t114 = true then (dns_Image.l0 k2 a0 (a0.size : Int) (wrap64 (x25_2 + 1))) else ((dns_great.f (bt a0 x25_2)).bind fun t115=>(if t115 = true then (dns_Image.l0 k2 a0 (a0.size : Int) (wrap64 (x25_2 + 1))) else ((dns_digit.f (bt a0 x25_2)).bind fun t116=>(if t116 = true then (dns_Image.l0 k2 a0 (a0.size : Int) (wrap64 (x25_2 + 1))) else ((strings_IndexByte.f (⟨#[46,95,45,47,58,64]⟩ : ByteArray) (bt a0 x25_2)).bind fun t117=>(if t117 < 0 then (some false) else (dns_Image.l0 k2 a0 (a0.size : Int) (wrap64 (x25_2 + 1)))))))))) = some r:=H
         have A16:=Aside0.mk A160
         clear A160
         by_cases c17 : t114 = true
         ·subst c17
          have H1 : (dns_Image.l0 k2 a0 (a0.size : Int) (wrap64 (x25_2 + 1))) = some r:=by rw [if_pos rfl] at H;exact H
          clear H
          have H:=H1
          clear H1
          have H':=Aside0.mk H
          clear H
          have p15 : 0 ≤ (x25_2 : Int):=of_decide_eq_true (by first|(with_reducible assumption)|assumption)
          have q15 : x25_2 < (a0.size : Int):=of_decide_eq_true (by first|(with_reducible assumption)|assumption)
          have hx15:=bt_at a0 x25_2
          replace p15:=eq_true p15
          replace q15:=eq_true q15
          go_wp2_with (first|((with_reducible refine gate_callee (f:=73) rfl ?_);refine goesL_ (some 31) rfl rfl Tryd.func73 (by kernel_rfl) rfl #[.int .u8 (bt a0 x25_2)] rfl (by (try simp only [List.map_toArray,List.map_cons,List.map_nil]);first|done|rfl|(simp only [List.length_drop,List.length_take];rfl)|(simp (disch:=first|omega|(simp at *;omega)) only [u64_id,i64_id,u8_id];rfl)) ?_;(with_reducible refine (dns_small.calls (bt a0 x25_2) true _ A16.out).mono ?_);rintro e w' ⟨rfl,⟨nd,rfl⟩⟩;refine ⟨_,rfl,?_⟩))
          go_roundg k2
          case measure=>have:=HJ1.out;have:=HK2.out;omega
          case rel=>exact ⟨(wrap64 (x25_2 + 1)),(by first|rfl|(simp;done)|(simp [*];done)),H',⟨by have:=HJ1.out;have:=HK2.out;omega⟩,by repeat (first|exact Drawn0.refl _|apply Drawn0.step)⟩
         ·replace c17:=Bool.eq_false_iff.mpr c17
          subst c17
          have H1 : ((dns_great.f (bt a0 x25_2)).bind fun t115=>(if t115 = true then (dns_Image.l0 k2 a0 (a0.size : Int) (wrap64 (x25_2 + 1))) else ((dns_digit.f (bt a0 x25_2)).bind fun t116=>(if t116 = true then (dns_Image.l0 k2 a0 (a0.size : Int) (wrap64 (x25_2 + 1))) else ((strings_IndexByte.f (⟨#[46,95,45,47,58,64]⟩ : ByteArray) (bt a0 x25_2)).bind fun t117=>(if t117 < 0 then (some false) else (dns_Image.l0 k2 a0 (a0.size : Int) (wrap64 (x25_2 + 1))))))))) = some r:=by rw [if_neg (show ¬ (false = true) by decide)] at H;exact H
          clear H
          have H:=H1
          clear H1
          replace H:=Option.bind_eq_some_iff.mp H
          obtain ⟨t115,A190,H⟩:=H
          replace H : (if t115 = true then (dns_Image.l0 k2 a0 (a0.size : Int) (wrap64 (x25_2 + 1))) else ((dns_digit.f (bt a0 x25_2)).bind fun t116=>(if t116 = true then (dns_Image.l0 k2 a0 (a0.size : Int) (wrap64 (x25_2 + 1))) else ((strings_IndexByte.f (⟨#[46,95,45,47,58,64]⟩ : ByteArray) (bt a0 x25_2)).bind fun t117=>(if t117 < 0 then (some false) else (dns_Image.l0 k2 a0 (a0.size : Int) (wrap64 (x25_2 + 1)))))))) = some r:=H
          have A19:=Aside0.mk A190
          clear A190
          by_cases c20 : t115 = true
          ·subst c20
           have H1 : (dns_Image.l0 k2 a0 (a0.size : Int) (wrap64 (x25_2 + 1))) = some r:=by rw [if_pos rfl] at H;exact H
           clear H
           have H:=H1
           clear H1
           have H':=Aside0.mk H
           clear H
           have p15 : 0 ≤ (x25_2 : Int):=of_decide_eq_true (by first|(with_reducible assumption)|assumption)
           have q15 : x25_2 < (a0.size : Int):=of_decide_eq_true (by first|(with_reducible assumption)|assumption)
           have hx15:=bt_at a0 x25_2
           replace p15:=eq_true p15
           replace q15:=eq_true q15
           go_wp2_with (first|((with_reducible refine gate_callee (f:=73) rfl ?_);refine goesL_ (some 31) rfl rfl Tryd.func73 (by kernel_rfl) rfl #[.int .u8 (bt a0 x25_2)] rfl (by (try simp only [List.map_toArray,List.map_cons,List.map_nil]);first|done|rfl|(simp only [List.length_drop,List.length_take];rfl)|(simp (disch:=first|omega|(simp at *;omega)) only [u64_id,i64_id,u8_id];rfl)) ?_;(with_reducible refine (dns_small.calls (bt a0 x25_2) false _ A16.out).mono ?_);rintro e w' ⟨rfl,⟨nd,rfl⟩⟩;refine ⟨_,rfl,?_⟩;have p18 : 0 ≤ (x25_2 : Int):=of_decide_eq_true (by first|(with_reducible assumption)|assumption);have q18 : x25_2 < (a0.size : Int):=of_decide_eq_true (by first|(with_reducible assumption)|assumption);have hx18:=bt_at a0 x25_2;replace p18:=eq_true p18;replace q18:=eq_true q18)|(go_at_call 75;(with_reducible refine (dns_great.calls (bt a0 x25_2) true _ A19.out).mono ?_);rintro e w' ⟨rfl,⟨nd,rfl⟩⟩))
           go_roundg k2
           case measure=>have:=HJ1.out;have:=HK2.out;omega
           case rel=>exact ⟨(wrap64 (x25_2 + 1)),(by first|rfl|(simp;done)|(simp [*];done)),H',⟨by have:=HJ1.out;have:=HK2.out;omega⟩,by repeat (first|exact Drawn0.refl _|apply Drawn0.step)⟩
          ·replace c20:=Bool.eq_false_iff.mpr c20
           subst c20
           have H1 : ((dns_digit.f (bt a0 x25_2)).bind fun t116=>(if t116 = true then (dns_Image.l0 k2 a0 (a0.size : Int) (wrap64 (x25_2 + 1))) else ((strings_IndexByte.f (⟨#[46,95,45,47,58,64]⟩ : ByteArray) (bt a0 x25_2)).bind fun t117=>(if t117 < 0 then (some false) else (dns_Image.l0 k2 a0 (a0.size : Int) (wrap64 (x25_2 + 1))))))) = some r:=by rw [if_neg (show ¬ (false = true) by decide)] at H;exact H
           clear H
           have H:=H1
           clear H1
           replace H:=Option.bind_eq_some_iff.mp H
           obtain ⟨t116,A220,H⟩:=H
           replace H : (if t116 = true then (dns_Image.l0 k2 a0 (a0.size : Int) (wrap64 (x25_2 + 1))) else ((strings_IndexByte.f (⟨#[46,95,45,47,58,64]⟩ : ByteArray) (bt a0 x25_2)).bind fun t117=>(if t117 < 0 then (some false) else (dns_Image.l0 k2 a0 (a0.size : Int) (wrap64 (x25_2 + 1)))))) = some r:=H
           have A22:=Aside0.mk A220
           clear A220
           by_cases c23 : t116 = true
           ·subst c23
            have H1 : (dns_Image.l0 k2 a0 (a0.size : Int) (wrap64 (x25_2 + 1))) = some r:=by rw [if_pos rfl] at H;exact H
            clear H
            have H:=H1
            clear H1
            have H':=Aside0.mk H
            clear H
            have p15 : 0 ≤ (x25_2 : Int):=of_decide_eq_true (by first|(with_reducible assumption)|assumption)
            have q15 : x25_2 < (a0.size : Int):=of_decide_eq_true (by first|(with_reducible assumption)|assumption)
            have hx15:=bt_at a0 x25_2
            replace p15:=eq_true p15
            replace q15:=eq_true q15
            go_wp2_with (first|((with_reducible refine gate_callee (f:=73) rfl ?_);refine goesL_ (some 31) rfl rfl Tryd.func73 (by kernel_rfl) rfl #[.int .u8 (bt a0 x25_2)] rfl (by (try simp only [List.map_toArray,List.map_cons,List.map_nil]);first|done|rfl|(simp only [List.length_drop,List.length_take];rfl)|(simp (disch:=first|omega|(simp at *;omega)) only [u64_id,i64_id,u8_id];rfl)) ?_;(with_reducible refine (dns_small.calls (bt a0 x25_2) false _ A16.out).mono ?_);rintro e w' ⟨rfl,⟨nd,rfl⟩⟩;refine ⟨_,rfl,?_⟩;have p18 : 0 ≤ (x25_2 : Int):=of_decide_eq_true (by first|(with_reducible assumption)|assumption);have q18 : x25_2 < (a0.size : Int):=of_decide_eq_true (by first|(with_reducible assumption)|assumption);have hx18:=bt_at a0 x25_2;replace p18:=eq_true p18;replace q18:=eq_true q18)|(go_at_call 75;(with_reducible refine (dns_great.calls (bt a0 x25_2) false _ A19.out).mono ?_);rintro e w' ⟨rfl,⟨nd,rfl⟩⟩;have p21 : 0 ≤ (x25_2 : Int):=of_decide_eq_true (by first|(with_reducible assumption)|assumption);have q21 : x25_2 < (a0.size : Int):=of_decide_eq_true (by first|(with_reducible assumption)|assumption);have hx21:=bt_at a0 x25_2;replace p21:=eq_true p21;replace q21:=eq_true q21)|(go_at_call 74;(with_reducible refine (dns_digit.calls (bt a0 x25_2) true _ A22.out).mono ?_);rintro e w' ⟨rfl,⟨nd,rfl⟩⟩))
            go_roundg k2
            case measure=>have:=HJ1.out;have:=HK2.out;omega
            case rel=>exact ⟨(wrap64 (x25_2 + 1)),(by first|rfl|(simp;done)|(simp [*];done)),H',⟨by have:=HJ1.out;have:=HK2.out;omega⟩,by repeat (first|exact Drawn0.refl _|apply Drawn0.step)⟩
           ·replace c23:=Bool.eq_false_iff.mpr c23
            subst c23
            have H1 : ((strings_IndexByte.f (⟨#[46,95,45,47,58,64]⟩ : ByteArray) (bt a0 x25_2)).bind fun t117=>(if t117 < 0 then (some false) else (dns_Image.l0 k2 a0 (a0.size : Int) (wrap64 (x25_2 + 1))))) = some r:=by rw [if_neg (show ¬ (false = true) by decide)] at H;exact H
            clear H
            have H:=H1
            clear H1
            replace H:=Option.bind_eq_some_iff.mp H
            obtain ⟨t117,A250,H⟩:=H
            replace H : (if t117 < 0 then (some false) else (dns_Image.l0 k2 a0 (a0.size : Int) (wrap64 (x25_2 + 1)))) = some r:=H
            have A25:=Aside0.mk A250
            clear A250
            by_cases c26 : t117 < 0
            ·rw [if_pos c26] at H
             have c26b0 : decide (t117 < 0) = true:=decide_eq_true c26
             clear c26
             obtain rfl:=Option.some.inj H
             have p15 : 0 ≤ (x25_2 : Int):=of_decide_eq_true (by first|(with_reducible assumption)|assumption)
             have q15 : x25_2 < (a0.size : Int):=of_decide_eq_true (by first|(with_reducible assumption)|assumption)
             have hx15:=bt_at a0 x25_2
             replace p15:=eq_true p15
             replace q15:=eq_true q15
             go_wp2_with (first|((with_reducible refine gate_callee (f:=73) rfl ?_);refine goesL_ (some 31) rfl rfl Tryd.func73 (by kernel_rfl) rfl #[.int .u8 (bt a0 x25_2)] rfl (by (try simp only [List.map_toArray,List.map_cons,List.map_nil]);first|done|rfl|(simp only [List.length_drop,List.length_take];rfl)|(simp (disch:=first|omega|(simp at *;omega)) only [u64_id,i64_id,u8_id];rfl)) ?_;(with_reducible refine (dns_small.calls (bt a0 x25_2) false _ A16.out).mono ?_);rintro e w' ⟨rfl,⟨nd,rfl⟩⟩;refine ⟨_,rfl,?_⟩;have p18 : 0 ≤ (x25_2 : Int):=of_decide_eq_true (by first|(with_reducible assumption)|assumption);have q18 : x25_2 < (a0.size : Int):=of_decide_eq_true (by first|(with_reducible assumption)|assumption);have hx18:=bt_at a0 x25_2;replace p18:=eq_true p18;replace q18:=eq_true q18)|(go_at_call 75;(with_reducible refine (dns_great.calls (bt a0 x25_2) false _ A19.out).mono ?_);rintro e w' ⟨rfl,⟨nd,rfl⟩⟩;have p21 : 0 ≤ (x25_2 : Int):=of_decide_eq_true (by first|(with_reducible assumption)|assumption);have q21 : x25_2 < (a0.size : Int):=of_decide_eq_true (by first|(with_reducible assumption)|assumption);have hx21:=bt_at a0 x25_2;replace p21:=eq_true p21;replace q21:=eq_true q21)|(go_at_call 74;(with_reducible refine (dns_digit.calls (bt a0 x25_2) false _ A22.out).mono ?_);rintro e w' ⟨rfl,⟨nd,rfl⟩⟩;have p24 : 0 ≤ (x25_2 : Int):=of_decide_eq_true (by first|(with_reducible assumption)|assumption);have q24 : x25_2 < (a0.size : Int):=of_decide_eq_true (by first|(with_reducible assumption)|assumption);have hx24:=bt_at a0 x25_2;replace p24:=eq_true p24;replace q24:=eq_true q24)|(go_at_call 47;(with_reducible refine (strings_IndexByte.calls (⟨#[46,95,45,47,58,64]⟩ : ByteArray) (bt a0 x25_2) t117 _ A25.out).mono ?_);rintro e w' ⟨rfl,⟨nd,rfl⟩⟩))
             go_ret
             exact ⟨by first|rfl|(simp;done)|(simp [*];done),by repeat (first|exact Drawn0.refl _|apply Drawn0.step)⟩
            ·rw [if_neg c26] at H
             have c26b0 : decide (t117 < 0) = false:=decide_eq_false c26
             clear c26
             have H':=Aside0.mk H
             clear H
             have p15 : 0 ≤ (x25_2 : Int):=of_decide_eq_true (by first|(with_reducible assumption)|assumption)
             have q15 : x25_2 < (a0.size : Int):=of_decide_eq_true (by first|(with_reducible assumption)|assumption)
             have hx15:=bt_at a0 x25_2
             replace p15:=eq_true p15
             replace q15:=eq_true q15
             go_wp2_with (first|((with_reducible refine gate_callee (f:=73) rfl ?_);refine goesL_ (some 31) rfl rfl Tryd.func73 (by kernel_rfl) rfl #[.int .u8 (bt a0 x25_2)] rfl (by (try simp only [List.map_toArray,List.map_cons,List.map_nil]);first|done|rfl|(simp only [List.length_drop,List.length_take];rfl)|(simp (disch:=first|omega|(simp at *;omega)) only [u64_id,i64_id,u8_id];rfl)) ?_;(with_reducible refine (dns_small.calls (bt a0 x25_2) false _ A16.out).mono ?_);rintro e w' ⟨rfl,⟨nd,rfl⟩⟩;refine ⟨_,rfl,?_⟩;have p18 : 0 ≤ (x25_2 : Int):=of_decide_eq_true (by first|(with_reducible assumption)|assumption);have q18 : x25_2 < (a0.size : Int):=of_decide_eq_true (by first|(with_reducible assumption)|assumption);have hx18:=bt_at a0 x25_2;replace p18:=eq_true p18;replace q18:=eq_true q18)|(go_at_call 75;(with_reducible refine (dns_great.calls (bt a0 x25_2) false _ A19.out).mono ?_);rintro e w' ⟨rfl,⟨nd,rfl⟩⟩;have p21 : 0 ≤ (x25_2 : Int):=of_decide_eq_true (by first|(with_reducible assumption)|assumption);have q21 : x25_2 < (a0.size : Int):=of_decide_eq_true (by first|(with_reducible assumption)|assumption);have hx21:=bt_at a0 x25_2;replace p21:=eq_true p21;replace q21:=eq_true q21)|(go_at_call 74;(with_reducible refine (dns_digit.calls (bt a0 x25_2) false _ A22.out).mono ?_);rintro e w' ⟨rfl,⟨nd,rfl⟩⟩;have p24 : 0 ≤ (x25_2 : Int):=of_decide_eq_true (by first|(with_reducible assumption)|assumption);have q24 : x25_2 < (a0.size : Int):=of_decide_eq_true (by first|(with_reducible assumption)|assumption);have hx24:=bt_at a0 x25_2;replace p24:=eq_true p24;replace q24:=eq_true q24)|(go_at_call 47;(with_reducible refine (strings_IndexByte.calls (⟨#[46,95,45,47,58,64]⟩ : ByteArray) (bt a0 x25_2) t117 _ A25.out).mono ?_);rintro e w' ⟨rfl,⟨nd,rfl⟩⟩))
             go_roundg k2
             case measure=>have:=HJ1.out;have:=HK2.out;omega
             case rel=>exact ⟨(wrap64 (x25_2 + 1)),(by first|rfl|(simp;done)|(simp [*];done)),H',⟨by have:=HJ1.out;have:=HK2.out;omega⟩,by repeat (first|exact Drawn0.refl _|apply Drawn0.step)⟩
        ·rw [if_neg c14] at H
         exact absurd H (by simp)
       ·rw [if_neg c13] at H
        exact absurd H (by simp)
      ·rw [if_neg c12] at H
       have c12b0 : decide (x25_2 < (a0.size : Int)) = false:=decide_eq_false c12
       clear c12
       obtain rfl:=Option.some.inj H
       go_wp2
       go_ret
       exact ⟨by first|rfl|(simp;done)|(simp [*];done),by repeat (first|exact Drawn0.refl _|apply Drawn0.step)⟩

end Go.Proofs.YtpmbdcljphpcnaaDoor.GC2
