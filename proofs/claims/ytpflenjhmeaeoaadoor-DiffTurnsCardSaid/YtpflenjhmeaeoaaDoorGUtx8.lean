/- Written by this session's own program (wip/gen.py) out of the translation: plain Lean functions of the Go functions, and proofs that the calls come to their answers. No conditions beside those in the statements. -/
import Derived.Test.YtpflenjhmeaeoaaDoorGUtx0
import Derived.Test.YtpflenjhmeaeoaaDoorGUtx7
import Derived.Test.YtpflenjhmeaeoaaDoorGUtIndex
namespace Go.Proofs.YtpflenjhmeaeoaaDoor.GUt
open Go.RowKit Go.Proofs.YtpflenjhmeaeoaaDoorW.PrintWords Go.Proofs.YtpflenjhmeaeoaaDoorW.PrintLast Go.Proofs.YtpflenjhmeaeoaaDoorW.PrintMore
attribute [local go_sem] fC fD gu gD eP eT fE fF
set_option linter.unusedVariables false
set_option linter.unusedSimpArgs false
mutual
def bD.j0 : Nat → ByteArray → Bool → Option (Bool)
 | 0,_,_=>none
 | k + 1,x0,BD=>if BD = true then (some false) else (bD.l0 k x0 (x0.size : Int) 0)
def bD.l0 : Nat → ByteArray → Int → Int → Option (Bool)
 | 0,_,_,_=>none
 | k + 1,x0,x24,x25=>if x25 < x24 then (if 0 ≤ x25 then (if x25 < (x0.size : Int) then ((eu.f (bt x0 x25)).bind fun AB=>(if AB = true then (bD.l0 k x0 x24 (wrap64 (x25 + 1))) else ((fV.f (bt x0 x25)).bind fun Ap=>(if Ap = true then (bD.l0 k x0 x24 (wrap64 (x25 + 1))) else ((dK.f (bt x0 x25)).bind fun Am=>(if Am = true then (bD.l0 k x0 x24 (wrap64 (x25 + 1))) else ((strings_IndexByte.f (⟨#[46,95,45,47,58,64]⟩ : ByteArray) (bt x0 x25)).bind fun t193=>(if t193 < 0 then (some false) else (bD.l0 k x0 x24 (wrap64 (x25 + 1))))))))))) else (none)) else (none)) else (some true)
end
def bD.f (k : Nat) (a0 : ByteArray) : Option (Bool):=if a0.toList = ([] : List UInt8) then (bD.j0 k a0 true) else (if (a0.size : Int) > 255 then (bD.j0 k a0 true) else (if 0 < (a0.size : Int) then ((eu.f (bt a0 0)).bind fun Ay=>(if Ay = true then (bD.j0 k a0 false) else ((dK.f (bt a0 0)).bind fun Ao=>(bD.j0 k a0 (!Ao))))) else (none)))
theorem bD.dV : ∀ k,(∀ y0 y1,LeO (bD.j0 k y0 y1) (bD.j0 (k + 1) y0 y1)) ∧ (∀ y0 y1 y2,LeO (bD.l0 k y0 y1 y2) (bD.l0 (k + 1) y0 y1 y2))
 | 0=>⟨fun _ _ r h=>by simp [bD.j0] at h,fun _ _ _ r h=>by simp [bD.l0] at h⟩
 | k + 1=>by
  obtain ⟨AU,ih1⟩:=bD.dV k
  refine ⟨?_,?_⟩
  ·intro y0 y1
   unfold bD.j0
   repeat' first
   | (with_reducible exact AU _ _)
   | (with_reducible exact ih1 _ _ _)
   | (with_reducible exact LeO.refl _)
   | (with_reducible exact LeO.none _)
   | (with_reducible refine LeO.ite ?_ ?_)
   | (with_reducible refine LeO.bind ?_ (fun _=>?_))
   | exact AU _ _
   | exact ih1 _ _ _
   | exact LeO.none _
   | refine LeO.ite ?_ ?_
   | refine LeO.bind ?_ (fun _=>?_)
  ·intro y0 y1 y2
   unfold bD.l0
   repeat' first
   | (with_reducible exact AU _ _)
   | (with_reducible exact ih1 _ _ _)
   | (with_reducible exact LeO.refl _)
   | (with_reducible exact LeO.none _)
   | (with_reducible refine LeO.ite ?_ ?_)
   | (with_reducible refine LeO.bind ?_ (fun _=>?_))
   | exact AU _ _
   | exact ih1 _ _ _
   | exact LeO.none _
   | refine LeO.ite ?_ ?_
   | refine LeO.bind ?_ (fun _=>?_)
theorem bD.mono : ∀ a0 k,LeO (bD.f k a0) (bD.f (k + 1) a0):=by
 intro a0 k
 obtain ⟨AU,ih1⟩:=bD.dV k
 unfold bD.f
 repeat' first
   | (with_reducible exact AU _ _)
   | (with_reducible exact ih1 _ _ _)
   | (with_reducible exact LeO.refl _)
   | (with_reducible exact LeO.none _)
   | (with_reducible refine LeO.ite ?_ ?_)
   | (with_reducible refine LeO.bind ?_ (fun _=>?_))
   | exact AU _ _
   | exact ih1 _ _ _
   | exact LeO.none _
   | refine LeO.ite ?_ ?_
   | refine LeO.bind ?_ (fun _=>?_)
set_option maxHeartbeats 8000000 in
set_option maxRecDepth 100000 in
theorem bD.calls (k : Nat) (a0 : ByteArray) (r : Bool) (w : World) (h : bD.f k a0 = some r) :
  Calls Tryd.prog 40 #[.string a0] w fun e w'=>e = .returned (.bool r) ∧ Drawn0 w w':=by
 have H : (if a0.toList = ([] : List UInt8) then (bD.j0 k a0 true) else (if (a0.size : Int) > 255 then (bD.j0 k a0 true) else (if 0 < (a0.size : Int) then ((eu.f (bt a0 0)).bind fun Ay=>(if Ay = true then (bD.j0 k a0 false) else ((dK.f (bt a0 0)).bind fun Ao=>(bD.j0 k a0 (!Ao))))) else (none)))) = some r:=h
 clear h
 have Bp:=Aside0.mk H
 clear H
 go_enter Tryd.func40,Tryd.ntmps40
 go_upto_region 1 with (fail)
 go_cut [22] (fun v22 wc=>∃ (kq : Nat) (Aq : Bool),v22 = .bool Aq ∧ Aside0 (bD.j0 kq a0 Aq = some r) ∧ Aside0 (kq ≤ k) ∧ Drawn0 w wc)
 case first =>
  have H:=Bp.out
  clear Bp
  by_cases c3 : a0.toList = ([] : List UInt8)
  ·rw [if_pos c3] at H
   have c3b0 : (a0.toList == ([] : List UInt8)) = true:=beq_iff_eq.mpr c3
   have c3b1 : (a0.toList != ([] : List UInt8)) = false:=bne_eq_false_iff_eq.mpr c3
   clear c3
   (first|rw [c3b0]|(simp only [bH,bI];rw [c3b0])|skip)
   have H':=Aside0.mk H
   clear H
   go_wp2
   go_meet
   case rel=>exact ⟨_,(true),(by first|rfl|(simp;done)|(simp [*];done)|exact congrArg Value.bool (dh _)|exact congrArg Value.bool (dh _).symm),H',⟨by first|omega|exact Nat.le_refl _⟩,by repeat (first|exact Drawn0.refl _|apply Drawn0.step)⟩
  ·rw [if_neg c3] at H
   have c3b0 : (a0.toList == ([] : List UInt8)) = false:=beq_eq_false_iff_ne.mpr c3
   have c3b1 : (a0.toList != ([] : List UInt8)) = true:=bne_iff_ne.mpr c3
   (first|rw [c3b0]|(simp only [bH,bI];rw [c3b0])|skip)
   by_cases c4 : (a0.size : Int) > 255
   ·rw [if_pos c4] at H
    have c4b0 : decide (255 < (a0.size : Int)) = true:=decide_eq_true c4
    have c4b1 : decide (255 < a0.size) = true:=decide_eq_true (by omega)
    clear c4
    have H':=Aside0.mk H
    clear H
    go_wp2
    go_meet
    case rel=>exact ⟨_,(true),(by first|rfl|(simp;done)|(simp [*];done)|exact congrArg Value.bool (dh _)|exact congrArg Value.bool (dh _).symm),H',⟨by first|omega|exact Nat.le_refl _⟩,by repeat (first|exact Drawn0.refl _|apply Drawn0.step)⟩
   ·rw [if_neg c4] at H
    have c4b0 : decide (255 < (a0.size : Int)) = false:=decide_eq_false c4
    have c4b1 : decide (255 < a0.size) = false:=decide_eq_false (by omega)
    clear c4
    by_cases c5 : 0 < (a0.size : Int)
    ·rw [if_pos c5] at H
     have c5b0 : decide (0 < (a0.size : Int)) = true:=decide_eq_true c5
     have c5b1 : decide (0 < a0.size) = true:=decide_eq_true (by omega)
     clear c5
     replace H:=Option.bind_eq_some_iff.mp H
     obtain ⟨Ay,Bu,H⟩:=H
     replace H : (if Ay = true then (bD.j0 k a0 false) else ((dK.f (bt a0 0)).bind fun Ao=>(bD.j0 k a0 (!Ao)))) = some r:=H
     have A7:=Aside0.mk Bu
     clear Bu
     by_cases c8 : Ay = true
     ·subst c8
      have H1 : (bD.j0 k a0 false) = some r:=by rw [if_pos rfl] at H;exact H
      clear H
      have H:=H1
      clear H1
      have H':=Aside0.mk H
      clear H
      have p6 : 0 ≤ (0 : Int):=(by omega)
      have q6 : 0 < a0.size:=(by have : (0 : Int) < (a0.size : Int):=of_decide_eq_true (by first|(with_reducible assumption)|assumption);omega)
      have hx6 : ∀ h : 0 < a0.size,((a0[0]'h).toNat : Int) = bt a0 0:=eG a0 0
      clear p6
      have Bq : (0 < (a0.size : Int)) = True:=eq_true (of_decide_eq_true (by first|(with_reducible assumption)|assumption))
      replace q6:=eq_true q6
      go_wp2_with (first|(go_at_call 63;(with_reducible refine (eu.calls (bt a0 0) true _ A7.out).mono ?_);rintro e w' ⟨rfl,⟨nd,rfl⟩⟩))
      go_meet
      case rel=>exact ⟨_,(false),(by first|rfl|(simp;done)|(simp [*];done)|exact congrArg Value.bool (dh _)|exact congrArg Value.bool (dh _).symm),H',⟨by first|omega|exact Nat.le_refl _⟩,by repeat (first|exact Drawn0.refl _|apply Drawn0.step)⟩
     ·replace c8:=Bool.eq_false_iff.mpr c8
      subst c8
      have H1 : ((dK.f (bt a0 0)).bind fun Ao=>(bD.j0 k a0 (!Ao))) = some r:=by rw [if_neg (show ¬ (false = true) by decide)] at H;exact H
      clear H
      have H:=H1
      clear H1
      replace H:=Option.bind_eq_some_iff.mp H
      obtain ⟨Ao,AY,H⟩:=H
      replace H : (bD.j0 k a0 (!Ao)) = some r:=H
      have BF:=Aside0.mk AY
      clear AY
      have H':=Aside0.mk H
      clear H
      have p6 : 0 ≤ (0 : Int):=(by omega)
      have q6 : 0 < a0.size:=(by have : (0 : Int) < (a0.size : Int):=of_decide_eq_true (by first|(with_reducible assumption)|assumption);omega)
      have hx6 : ∀ h : 0 < a0.size,((a0[0]'h).toNat : Int) = bt a0 0:=eG a0 0
      clear p6
      have Bq : (0 < (a0.size : Int)) = True:=eq_true (of_decide_eq_true (by first|(with_reducible assumption)|assumption))
      replace q6:=eq_true q6
      go_wp2_with (first|(go_at_call 63;(with_reducible refine (eu.calls (bt a0 0) false _ A7.out).mono ?_);rintro e w' ⟨rfl,⟨nd,rfl⟩⟩;have p9 : 0 ≤ (0 : Int):=(by omega);have q9 : 0 < a0.size:=(by have : (0 : Int) < (a0.size : Int):=of_decide_eq_true (by first|(with_reducible assumption)|assumption);omega);have Bv : ∀ h : 0 < a0.size,((a0[0]'h).toNat : Int) = bt a0 0:=eG a0 0;clear p9;have Bw : (0 < (a0.size : Int)) = True:=eq_true (of_decide_eq_true (by first|(with_reducible assumption)|assumption));replace q9:=eq_true q9)|(go_at_call 64;(with_reducible refine (dK.calls (bt a0 0) Ao _ BF.out).mono ?_);rintro e w' ⟨rfl,⟨nd,rfl⟩⟩))
      go_meet
      case rel=>exact ⟨_,(!Ao),(by first|rfl|(simp;done)|(simp [*];done)|exact congrArg Value.bool (dh _)|exact congrArg Value.bool (dh _).symm),H',⟨by first|omega|exact Nat.le_refl _⟩,by repeat (first|exact Drawn0.refl _|apply Drawn0.step)⟩
    ·rw [if_neg c5] at H
     exact absurd H (by simp)
 case rest =>
  clear Bp
  try clear p2
  try clear c3
  try clear c3b0
  try clear c3b1
  try clear c4
  try clear c4b0
  try clear c4b1
  try clear c5
  try clear c5b0
  try clear c5b1
  try clear p6
  try clear q6
  try clear hx6
  try clear Bq
  try clear c8
  try clear p9
  try clear q9
  try clear Bv
  try clear Bw
  try clear p6
  try clear p9
  try clear q6
  try clear q9
  obtain ⟨kq,Aq,rfl,HA,AL,⟨BG,rfl⟩⟩:=hcut
  cases kq with
  | zero=>exact absurd HA.out (by simp [bD.j0])
  | succ Br =>
   have H:=HA.out
   clear HA
   simp only [bD.j0] at H
   by_cases c11 : Aq = true
   ·subst c11
    have H1 : (some false) = some r:=by rw [if_pos rfl] at H;exact H
    clear H
    have H:=H1
    clear H1
    obtain rfl:=Option.some.inj H
    go_wp2
    go_ret
    exact ⟨by first|rfl|(simp;done)|(simp [*];done),by repeat (first|exact Drawn0.refl _|apply Drawn0.step)⟩
   ·replace c11:=Bool.eq_false_iff.mpr c11
    subst c11
    have H1 : (bD.l0 Br a0 (a0.size : Int) 0) = some r:=by rw [if_neg (show ¬ (false = true) by decide)] at H;exact H
    clear H
    have H:=H1
    clear H1
    have H':=Aside0.mk H
    clear H
    go_wp2
    go_loopg [25] Br (fun kq v25 w'=>∃ (Al : Int),v25 = .int .i64 Al ∧ Aside0 (bD.l0 kq a0 (a0.size : Int) Al = some r) ∧ Aside0 (kq ≤ Br) ∧ Drawn0 w w')
    case atStart=>exact ⟨(0),(by first|rfl|(simp;done)|(simp [*];done)|exact congrArg Value.bool (dh _)|exact congrArg Value.bool (dh _).symm),H',⟨Nat.le_refl _⟩,by repeat (first|exact Drawn0.refl _|apply Drawn0.step)⟩
    case round =>
     clear H'
     try clear c1
     try clear p2
     try clear c3
     try clear c3b0
     try clear c3b1
     try clear c4
     try clear c4b0
     try clear c4b1
     try clear c5
     try clear c5b0
     try clear c5b1
     try clear p6
     try clear q6
     try clear hx6
     try clear Bq
     try clear c8
     try clear p9
     try clear q9
     try clear Bv
     try clear Bw
     try clear c11
     try clear p2
     try clear p6
     try clear p9
     try clear q6
     try clear q9
     obtain ⟨Al,rfl,HA,AO,⟨m2,rfl⟩⟩:=hrel
     cases gk with
     | zero=>exact absurd HA.out (by simp [bD.l0])
     | succ k2 =>
      have H:=HA.out
      clear HA
      simp only [bD.l0] at H
      by_cases c12 : Al < (a0.size : Int)
      ·rw [if_pos c12] at H
       have c12b0 : decide (Al < (a0.size : Int)) = true:=decide_eq_true c12
       clear c12
       by_cases c13 : 0 ≤ Al
       ·rw [if_pos c13] at H
        have c13b0 : decide (0 ≤ Al) = true:=decide_eq_true c13
        clear c13
        by_cases c14 : Al < (a0.size : Int)
        ·rw [if_pos c14] at H
         have c14b0 : decide (Al < (a0.size : Int)) = true:=decide_eq_true c14
         clear c14
         replace H:=Option.bind_eq_some_iff.mp H
         obtain ⟨AB,AZ,H⟩:=H
         replace H : (if AB = true then (bD.l0 k2 a0 (a0.size : Int) (wrap64 (Al + 1))) else ((fV.f (bt a0 Al)).bind fun Ap=>(if Ap = true then (bD.l0 k2 a0 (a0.size : Int) (wrap64 (Al + 1))) else ((dK.f (bt a0 Al)).bind fun Am=>(if Am = true then (bD.l0 k2 a0 (a0.size : Int) (wrap64 (Al + 1))) else ((strings_IndexByte.f (⟨#[46,95,45,47,58,64]⟩ : ByteArray) (bt a0 Al)).bind fun t193=>(if t193 < 0 then (some false) else (bD.l0 k2 a0 (a0.size : Int) (wrap64 (Al + 1)))))))))) = some r:=H
         have Bf:=Aside0.mk AZ
         clear AZ
         by_cases c17 : AB = true
         ·subst c17
          have H1 : (bD.l0 k2 a0 (a0.size : Int) (wrap64 (Al + 1))) = some r:=by rw [if_pos rfl] at H;exact H
          clear H
          have H:=H1
          clear H1
          have H':=Aside0.mk H
          clear H
          have Au : 0 ≤ (Al : Int):=of_decide_eq_true (by first|(with_reducible assumption)|assumption)
          have Aw : Al < (a0.size : Int):=of_decide_eq_true (by first|(with_reducible assumption)|assumption)
          have AJ:=eG a0 Al
          replace Au:=eq_true Au
          replace Aw:=eq_true Aw
          go_wp2_with (first|((with_reducible refine bq (f:=63) rfl ?_);refine cO (some 31) rfl rfl Tryd.func63 (by kernel_rfl) rfl #[.int .u8 (bt a0 Al)] rfl (by (try simp only [List.map_toArray,List.map_cons,List.map_nil]);first|done|rfl|(simp only [List.length_drop,List.length_take];rfl)|(simp (disch:=first|omega|(simp at *;omega)) only [cZ,bS,dQ];rfl)) ?_;(with_reducible refine (eu.calls (bt a0 Al) true _ Bf.out).mono ?_);rintro e w' ⟨rfl,⟨nd,rfl⟩⟩;refine ⟨_,rfl,?_⟩))
          go_roundg k2
          case measure=>have:=AL.out;have:=AO.out;omega
          case rel=>exact ⟨(wrap64 (Al + 1)),(by first|rfl|(simp;done)|(simp [*];done)|exact congrArg Value.bool (dh _)|exact congrArg Value.bool (dh _).symm),H',⟨by have:=AL.out;have:=AO.out;omega⟩,by repeat (first|exact Drawn0.refl _|apply Drawn0.step)⟩
         ·replace c17:=Bool.eq_false_iff.mpr c17
          subst c17
          have H1 : ((fV.f (bt a0 Al)).bind fun Ap=>(if Ap = true then (bD.l0 k2 a0 (a0.size : Int) (wrap64 (Al + 1))) else ((dK.f (bt a0 Al)).bind fun Am=>(if Am = true then (bD.l0 k2 a0 (a0.size : Int) (wrap64 (Al + 1))) else ((strings_IndexByte.f (⟨#[46,95,45,47,58,64]⟩ : ByteArray) (bt a0 Al)).bind fun t193=>(if t193 < 0 then (some false) else (bD.l0 k2 a0 (a0.size : Int) (wrap64 (Al + 1))))))))) = some r:=by rw [if_neg (show ¬ (false = true) by decide)] at H;exact H
          clear H
          have H:=H1
          clear H1
          replace H:=Option.bind_eq_some_iff.mp H
          obtain ⟨Ap,Bg,H⟩:=H
          replace H : (if Ap = true then (bD.l0 k2 a0 (a0.size : Int) (wrap64 (Al + 1))) else ((dK.f (bt a0 Al)).bind fun Am=>(if Am = true then (bD.l0 k2 a0 (a0.size : Int) (wrap64 (Al + 1))) else ((strings_IndexByte.f (⟨#[46,95,45,47,58,64]⟩ : ByteArray) (bt a0 Al)).bind fun t193=>(if t193 < 0 then (some false) else (bD.l0 k2 a0 (a0.size : Int) (wrap64 (Al + 1)))))))) = some r:=H
          have Bo:=Aside0.mk Bg
          clear Bg
          by_cases c20 : Ap = true
          ·subst c20
           have H1 : (bD.l0 k2 a0 (a0.size : Int) (wrap64 (Al + 1))) = some r:=by rw [if_pos rfl] at H;exact H
           clear H
           have H:=H1
           clear H1
           have H':=Aside0.mk H
           clear H
           have Au : 0 ≤ (Al : Int):=of_decide_eq_true (by first|(with_reducible assumption)|assumption)
           have Aw : Al < (a0.size : Int):=of_decide_eq_true (by first|(with_reducible assumption)|assumption)
           have AJ:=eG a0 Al
           replace Au:=eq_true Au
           replace Aw:=eq_true Aw
           go_wp2_with (first|((with_reducible refine bq (f:=63) rfl ?_);refine cO (some 31) rfl rfl Tryd.func63 (by kernel_rfl) rfl #[.int .u8 (bt a0 Al)] rfl (by (try simp only [List.map_toArray,List.map_cons,List.map_nil]);first|done|rfl|(simp only [List.length_drop,List.length_take];rfl)|(simp (disch:=first|omega|(simp at *;omega)) only [cZ,bS,dQ];rfl)) ?_;(with_reducible refine (eu.calls (bt a0 Al) false _ Bf.out).mono ?_);rintro e w' ⟨rfl,⟨nd,rfl⟩⟩;refine ⟨_,rfl,?_⟩;have Az : 0 ≤ (Al : Int):=of_decide_eq_true (by first|(with_reducible assumption)|assumption);have AA : Al < (a0.size : Int):=of_decide_eq_true (by first|(with_reducible assumption)|assumption);have AV:=eG a0 Al;replace Az:=eq_true Az;replace AA:=eq_true AA)|(go_at_call 65;(with_reducible refine (fV.calls (bt a0 Al) true _ Bo.out).mono ?_);rintro e w' ⟨rfl,⟨nd,rfl⟩⟩))
           go_roundg k2
           case measure=>have:=AL.out;have:=AO.out;omega
           case rel=>exact ⟨(wrap64 (Al + 1)),(by first|rfl|(simp;done)|(simp [*];done)|exact congrArg Value.bool (dh _)|exact congrArg Value.bool (dh _).symm),H',⟨by have:=AL.out;have:=AO.out;omega⟩,by repeat (first|exact Drawn0.refl _|apply Drawn0.step)⟩
          ·replace c20:=Bool.eq_false_iff.mpr c20
           subst c20
           have H1 : ((dK.f (bt a0 Al)).bind fun Am=>(if Am = true then (bD.l0 k2 a0 (a0.size : Int) (wrap64 (Al + 1))) else ((strings_IndexByte.f (⟨#[46,95,45,47,58,64]⟩ : ByteArray) (bt a0 Al)).bind fun t193=>(if t193 < 0 then (some false) else (bD.l0 k2 a0 (a0.size : Int) (wrap64 (Al + 1))))))) = some r:=by rw [if_neg (show ¬ (false = true) by decide)] at H;exact H
           clear H
           have H:=H1
           clear H1
           replace H:=Option.bind_eq_some_iff.mp H
           obtain ⟨Am,Bh,H⟩:=H
           replace H : (if Am = true then (bD.l0 k2 a0 (a0.size : Int) (wrap64 (Al + 1))) else ((strings_IndexByte.f (⟨#[46,95,45,47,58,64]⟩ : ByteArray) (bt a0 Al)).bind fun t193=>(if t193 < 0 then (some false) else (bD.l0 k2 a0 (a0.size : Int) (wrap64 (Al + 1)))))) = some r:=H
           have Bt:=Aside0.mk Bh
           clear Bh
           by_cases c23 : Am = true
           ·subst c23
            have H1 : (bD.l0 k2 a0 (a0.size : Int) (wrap64 (Al + 1))) = some r:=by rw [if_pos rfl] at H;exact H
            clear H
            have H:=H1
            clear H1
            have H':=Aside0.mk H
            clear H
            have Au : 0 ≤ (Al : Int):=of_decide_eq_true (by first|(with_reducible assumption)|assumption)
            have Aw : Al < (a0.size : Int):=of_decide_eq_true (by first|(with_reducible assumption)|assumption)
            have AJ:=eG a0 Al
            replace Au:=eq_true Au
            replace Aw:=eq_true Aw
            go_wp2_with (first|((with_reducible refine bq (f:=63) rfl ?_);refine cO (some 31) rfl rfl Tryd.func63 (by kernel_rfl) rfl #[.int .u8 (bt a0 Al)] rfl (by (try simp only [List.map_toArray,List.map_cons,List.map_nil]);first|done|rfl|(simp only [List.length_drop,List.length_take];rfl)|(simp (disch:=first|omega|(simp at *;omega)) only [cZ,bS,dQ];rfl)) ?_;(with_reducible refine (eu.calls (bt a0 Al) false _ Bf.out).mono ?_);rintro e w' ⟨rfl,⟨nd,rfl⟩⟩;refine ⟨_,rfl,?_⟩;have Az : 0 ≤ (Al : Int):=of_decide_eq_true (by first|(with_reducible assumption)|assumption);have AA : Al < (a0.size : Int):=of_decide_eq_true (by first|(with_reducible assumption)|assumption);have AV:=eG a0 Al;replace Az:=eq_true Az;replace AA:=eq_true AA)|(go_at_call 65;(with_reducible refine (fV.calls (bt a0 Al) false _ Bo.out).mono ?_);rintro e w' ⟨rfl,⟨nd,rfl⟩⟩;have AP : 0 ≤ (Al : Int):=of_decide_eq_true (by first|(with_reducible assumption)|assumption);have AQ : Al < (a0.size : Int):=of_decide_eq_true (by first|(with_reducible assumption)|assumption);have Bj:=eG a0 Al;replace AP:=eq_true AP;replace AQ:=eq_true AQ)|(go_at_call 64;(with_reducible refine (dK.calls (bt a0 Al) true _ Bt.out).mono ?_);rintro e w' ⟨rfl,⟨nd,rfl⟩⟩))
            go_roundg k2
            case measure=>have:=AL.out;have:=AO.out;omega
            case rel=>exact ⟨(wrap64 (Al + 1)),(by first|rfl|(simp;done)|(simp [*];done)|exact congrArg Value.bool (dh _)|exact congrArg Value.bool (dh _).symm),H',⟨by have:=AL.out;have:=AO.out;omega⟩,by repeat (first|exact Drawn0.refl _|apply Drawn0.step)⟩
           ·replace c23:=Bool.eq_false_iff.mpr c23
            subst c23
            have H1 : ((strings_IndexByte.f (⟨#[46,95,45,47,58,64]⟩ : ByteArray) (bt a0 Al)).bind fun t193=>(if t193 < 0 then (some false) else (bD.l0 k2 a0 (a0.size : Int) (wrap64 (Al + 1))))) = some r:=by rw [if_neg (show ¬ (false = true) by decide)] at H;exact H
            clear H
            have H:=H1
            clear H1
            replace H:=Option.bind_eq_some_iff.mp H
            obtain ⟨t193,Bl,H⟩:=H
            replace H : (if t193 < 0 then (some false) else (bD.l0 k2 a0 (a0.size : Int) (wrap64 (Al + 1)))) = some r:=H
            have Bz:=Aside0.mk Bl
            clear Bl
            by_cases AX : t193 < 0
            ·rw [if_pos AX] at H
             have c26b0 : decide (t193 < 0) = true:=decide_eq_true AX
             clear AX
             obtain rfl:=Option.some.inj H
             have Au : 0 ≤ (Al : Int):=of_decide_eq_true (by first|(with_reducible assumption)|assumption)
             have Aw : Al < (a0.size : Int):=of_decide_eq_true (by first|(with_reducible assumption)|assumption)
             have AJ:=eG a0 Al
             replace Au:=eq_true Au
             replace Aw:=eq_true Aw
             go_wp2_with (first|((with_reducible refine bq (f:=63) rfl ?_);refine cO (some 31) rfl rfl Tryd.func63 (by kernel_rfl) rfl #[.int .u8 (bt a0 Al)] rfl (by (try simp only [List.map_toArray,List.map_cons,List.map_nil]);first|done|rfl|(simp only [List.length_drop,List.length_take];rfl)|(simp (disch:=first|omega|(simp at *;omega)) only [cZ,bS,dQ];rfl)) ?_;(with_reducible refine (eu.calls (bt a0 Al) false _ Bf.out).mono ?_);rintro e w' ⟨rfl,⟨nd,rfl⟩⟩;refine ⟨_,rfl,?_⟩;have Az : 0 ≤ (Al : Int):=of_decide_eq_true (by first|(with_reducible assumption)|assumption);have AA : Al < (a0.size : Int):=of_decide_eq_true (by first|(with_reducible assumption)|assumption);have AV:=eG a0 Al;replace Az:=eq_true Az;replace AA:=eq_true AA)|(go_at_call 65;(with_reducible refine (fV.calls (bt a0 Al) false _ Bo.out).mono ?_);rintro e w' ⟨rfl,⟨nd,rfl⟩⟩;have AP : 0 ≤ (Al : Int):=of_decide_eq_true (by first|(with_reducible assumption)|assumption);have AQ : Al < (a0.size : Int):=of_decide_eq_true (by first|(with_reducible assumption)|assumption);have Bj:=eG a0 Al;replace AP:=eq_true AP;replace AQ:=eq_true AQ)|(go_at_call 64;(with_reducible refine (dK.calls (bt a0 Al) false _ Bt.out).mono ?_);rintro e w' ⟨rfl,⟨nd,rfl⟩⟩;have Bn : 0 ≤ (Al : Int):=of_decide_eq_true (by first|(with_reducible assumption)|assumption);have q24 : Al < (a0.size : Int):=of_decide_eq_true (by first|(with_reducible assumption)|assumption);have hx24:=eG a0 Al;replace Bn:=eq_true Bn;replace q24:=eq_true q24)|(go_at_call 66;(with_reducible refine (strings_IndexByte.calls (⟨#[46,95,45,47,58,64]⟩ : ByteArray) (bt a0 Al) t193 _ Bz.out).mono ?_);rintro e w' ⟨rfl,⟨nd,rfl⟩⟩))
             go_ret
             exact ⟨by first|rfl|(simp;done)|(simp [*];done),by repeat (first|exact Drawn0.refl _|apply Drawn0.step)⟩
            ·rw [if_neg AX] at H
             have c26b0 : decide (t193 < 0) = false:=decide_eq_false AX
             clear AX
             have H':=Aside0.mk H
             clear H
             have Au : 0 ≤ (Al : Int):=of_decide_eq_true (by first|(with_reducible assumption)|assumption)
             have Aw : Al < (a0.size : Int):=of_decide_eq_true (by first|(with_reducible assumption)|assumption)
             have AJ:=eG a0 Al
             replace Au:=eq_true Au
             replace Aw:=eq_true Aw
             go_wp2_with (first|((with_reducible refine bq (f:=63) rfl ?_);refine cO (some 31) rfl rfl Tryd.func63 (by kernel_rfl) rfl #[.int .u8 (bt a0 Al)] rfl (by (try simp only [List.map_toArray,List.map_cons,List.map_nil]);first|done|rfl|(simp only [List.length_drop,List.length_take];rfl)|(simp (disch:=first|omega|(simp at *;omega)) only [cZ,bS,dQ];rfl)) ?_;(with_reducible refine (eu.calls (bt a0 Al) false _ Bf.out).mono ?_);rintro e w' ⟨rfl,⟨nd,rfl⟩⟩;refine ⟨_,rfl,?_⟩;have Az : 0 ≤ (Al : Int):=of_decide_eq_true (by first|(with_reducible assumption)|assumption);have AA : Al < (a0.size : Int):=of_decide_eq_true (by first|(with_reducible assumption)|assumption);have AV:=eG a0 Al;replace Az:=eq_true Az;replace AA:=eq_true AA)|(go_at_call 65;(with_reducible refine (fV.calls (bt a0 Al) false _ Bo.out).mono ?_);rintro e w' ⟨rfl,⟨nd,rfl⟩⟩;have AP : 0 ≤ (Al : Int):=of_decide_eq_true (by first|(with_reducible assumption)|assumption);have AQ : Al < (a0.size : Int):=of_decide_eq_true (by first|(with_reducible assumption)|assumption);have Bj:=eG a0 Al;replace AP:=eq_true AP;replace AQ:=eq_true AQ)|(go_at_call 64;(with_reducible refine (dK.calls (bt a0 Al) false _ Bt.out).mono ?_);rintro e w' ⟨rfl,⟨nd,rfl⟩⟩;have Bn : 0 ≤ (Al : Int):=of_decide_eq_true (by first|(with_reducible assumption)|assumption);have q24 : Al < (a0.size : Int):=of_decide_eq_true (by first|(with_reducible assumption)|assumption);have hx24:=eG a0 Al;replace Bn:=eq_true Bn;replace q24:=eq_true q24)|(go_at_call 66;(with_reducible refine (strings_IndexByte.calls (⟨#[46,95,45,47,58,64]⟩ : ByteArray) (bt a0 Al) t193 _ Bz.out).mono ?_);rintro e w' ⟨rfl,⟨nd,rfl⟩⟩))
             go_roundg k2
             case measure=>have:=AL.out;have:=AO.out;omega
             case rel=>exact ⟨(wrap64 (Al + 1)),(by first|rfl|(simp;done)|(simp [*];done)|exact congrArg Value.bool (dh _)|exact congrArg Value.bool (dh _).symm),H',⟨by have:=AL.out;have:=AO.out;omega⟩,by repeat (first|exact Drawn0.refl _|apply Drawn0.step)⟩
        ·rw [if_neg c14] at H
         exact absurd H (by simp)
       ·rw [if_neg c13] at H
        exact absurd H (by simp)
      ·rw [if_neg c12] at H
       have c12b0 : decide (Al < (a0.size : Int)) = false:=decide_eq_false c12
       clear c12
       obtain rfl:=Option.some.inj H
       go_wp2
       go_ret
       exact ⟨by first|rfl|(simp;done)|(simp [*];done),by repeat (first|exact Drawn0.refl _|apply Drawn0.step)⟩
end Go.Proofs.YtpflenjhmeaeoaaDoor.GUt
