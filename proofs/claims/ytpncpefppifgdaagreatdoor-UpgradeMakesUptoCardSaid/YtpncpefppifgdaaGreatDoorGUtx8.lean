/- Written by this session's own program (wip/gen.py) out of the translation: plain Lean functions of the Go functions, and proofs that the calls come to their answers. No conditions beside those in the statements. -/
import Derived.Test.YtpncpefppifgdaaGreatDoorGUtx0
import Derived.Test.YtpncpefppifgdaaGreatDoorGUtx1
import Derived.Test.YtpncpefppifgdaaGreatDoorGUtx2
import Derived.Test.YtpncpefppifgdaaGreatDoorGUtIndex
namespace Go.Proofs.YtpncpefppifgdaaGreatDoor.GUt
open Go.RowKit Go.Proofs.YtpncpefppifgdaaGreatDoorW.PrintWords Go.Proofs.YtpncpefppifgdaaGreatDoorW.PrintLast Go.Proofs.YtpncpefppifgdaaGreatDoorW.PrintMore
attribute [local go_sem] fZ gq gM gN fM fO gu gD
set_option linter.unusedVariables false
set_option linter.unusedSimpArgs false
mutual
def bD.j0 : Nat → ByteArray → Bool → Option (Bool)
 | 0,_,_=>none
 | k + 1,x0,Cr=>if Cr = true then (some false) else (bD.l0 k x0 (x0.size : Int) 0)
def bD.l0 : Nat → ByteArray → Int → Int → Option (Bool)
 | 0,_,_,_=>none
 | k + 1,x0,x24,x25=>if x25 < x24 then (if 0 ≤ x25 then (if x25 < (x0.size : Int) then ((eP.f (bt x0 x25)).bind fun t145=>(if t145 = true then (bD.l0 k x0 x24 (wrap64 (x25 + 1))) else ((fT.f (bt x0 x25)).bind fun t146=>(if t146 = true then (bD.l0 k x0 x24 (wrap64 (x25 + 1))) else ((dN.f (bt x0 x25)).bind fun Bv=>(if Bv = true then (bD.l0 k x0 x24 (wrap64 (x25 + 1))) else ((strings_IndexByte.f (⟨#[46,95,45,47,58,64]⟩ : ByteArray) (bt x0 x25)).bind fun t148=>(if t148 < 0 then (some false) else (bD.l0 k x0 x24 (wrap64 (x25 + 1))))))))))) else (none)) else (none)) else (some true)
end
def bD.f (k : Nat) (a0 : ByteArray) : Option (Bool):=if a0.toList = ([] : List UInt8) then (bD.j0 k a0 true) else (if (a0.size : Int) > 255 then (bD.j0 k a0 true) else (if 0 < (a0.size : Int) then ((eP.f (bt a0 0)).bind fun t143=>(if t143 = true then (bD.j0 k a0 false) else ((dN.f (bt a0 0)).bind fun Bw=>(bD.j0 k a0 (!Bw))))) else (none)))
theorem bD.eB : ∀ k,(∀ y0 y1,LeO (bD.j0 k y0 y1) (bD.j0 (k + 1) y0 y1)) ∧ (∀ y0 y1 y2,LeO (bD.l0 k y0 y1 y2) (bD.l0 (k + 1) y0 y1 y2))
 | 0=>⟨fun _ _ r h=>by simp [bD.j0] at h,fun _ _ _ r h=>by simp [bD.l0] at h⟩
 | k + 1=>by
  obtain ⟨BO,ih1⟩:=bD.eB k
  refine ⟨?_,?_⟩
  ·intro y0 y1
   unfold bD.j0
   repeat' first
   | (with_reducible exact BO _ _)
   | (with_reducible exact ih1 _ _ _)
   | (with_reducible exact LeO.refl _)
   | (with_reducible exact LeO.none _)
   | (with_reducible refine LeO.ite ?_ ?_)
   | (with_reducible refine LeO.bind ?_ (fun _=>?_))
   | exact BO _ _
   | exact ih1 _ _ _
   | exact LeO.none _
   | refine LeO.ite ?_ ?_
   | refine LeO.bind ?_ (fun _=>?_)
  ·intro y0 y1 y2
   unfold bD.l0
   repeat' first
   | (with_reducible exact BO _ _)
   | (with_reducible exact ih1 _ _ _)
   | (with_reducible exact LeO.refl _)
   | (with_reducible exact LeO.none _)
   | (with_reducible refine LeO.ite ?_ ?_)
   | (with_reducible refine LeO.bind ?_ (fun _=>?_))
   | exact BO _ _
   | exact ih1 _ _ _
   | exact LeO.none _
   | refine LeO.ite ?_ ?_
   | refine LeO.bind ?_ (fun _=>?_)
theorem bD.mono : ∀ a0 k,LeO (bD.f k a0) (bD.f (k + 1) a0):=by
 intro a0 k
 obtain ⟨BO,ih1⟩:=bD.eB k
 unfold bD.f
 repeat' first
   | (with_reducible exact BO _ _)
   | (with_reducible exact ih1 _ _ _)
   | (with_reducible exact LeO.refl _)
   | (with_reducible exact LeO.none _)
   | (with_reducible refine LeO.ite ?_ ?_)
   | (with_reducible refine LeO.bind ?_ (fun _=>?_))
   | exact BO _ _
   | exact ih1 _ _ _
   | exact LeO.none _
   | refine LeO.ite ?_ ?_
   | refine LeO.bind ?_ (fun _=>?_)
set_option maxHeartbeats 8000000 in
set_option maxRecDepth 100000 in
theorem bD.calls (k : Nat) (a0 : ByteArray) (r : Bool) (w : World) (h : bD.f k a0 = some r) :
  Calls Tryz.prog 89 #[.string a0] w fun e w'=>e = .returned (.bool r) ∧ Drawn0 w w':=by
 have H : (if a0.toList = ([] : List UInt8) then (bD.j0 k a0 true) else (if (a0.size : Int) > 255 then (bD.j0 k a0 true) else (if 0 < (a0.size : Int) then ((eP.f (bt a0 0)).bind fun t143=>(if t143 = true then (bD.j0 k a0 false) else ((dN.f (bt a0 0)).bind fun Bw=>(bD.j0 k a0 (!Bw))))) else (none)))) = some r:=h
 clear h
 have Ch:=Aside0.mk H
 clear H
 go_enter Tryz.func89,Tryz.ntmps89
 go_upto_region 1 with (fail)
 go_cut [22] (fun v22 wc=>∃ (kq : Nat) (Bz : Bool),v22 = .bool Bz ∧ Aside0 (bD.j0 kq a0 Bz = some r) ∧ Aside0 (kq ≤ k) ∧ Drawn0 w wc)
 case first =>
  have H:=Ch.out
  clear Ch
  by_cases c3 : a0.toList = ([] : List UInt8)
  ·rw [if_pos c3] at H
   have c3b0 : (a0.toList == ([] : List UInt8)) = true:=beq_iff_eq.mpr c3
   have c3b1 : (a0.toList != ([] : List UInt8)) = false:=bne_eq_false_iff_eq.mpr c3
   clear c3
   (first|rw [c3b0]|(simp only [bJ,bK];rw [c3b0])|skip)
   have H':=Aside0.mk H
   clear H
   go_wp2
   go_meet
   case rel=>exact ⟨_,(true),(by first|rfl|(simp;done)|(simp [*];done)|exact congrArg Value.bool (dI _)|exact congrArg Value.bool (dI _).symm),H',⟨by first|omega|exact Nat.le_refl _⟩,by repeat (first|exact Drawn0.refl _|apply Drawn0.step)⟩
  ·rw [if_neg c3] at H
   have c3b0 : (a0.toList == ([] : List UInt8)) = false:=beq_eq_false_iff_ne.mpr c3
   have c3b1 : (a0.toList != ([] : List UInt8)) = true:=bne_iff_ne.mpr c3
   (first|rw [c3b0]|(simp only [bJ,bK];rw [c3b0])|skip)
   by_cases c4 : (a0.size : Int) > 255
   ·rw [if_pos c4] at H
    have c4b0 : decide (255 < (a0.size : Int)) = true:=decide_eq_true c4
    have c4b1 : decide (255 < a0.size) = true:=decide_eq_true (by omega)
    clear c4
    have H':=Aside0.mk H
    clear H
    go_wp2
    go_meet
    case rel=>exact ⟨_,(true),(by first|rfl|(simp;done)|(simp [*];done)|exact congrArg Value.bool (dI _)|exact congrArg Value.bool (dI _).symm),H',⟨by first|omega|exact Nat.le_refl _⟩,by repeat (first|exact Drawn0.refl _|apply Drawn0.step)⟩
   ·rw [if_neg c4] at H
    have c4b0 : decide (255 < (a0.size : Int)) = false:=decide_eq_false c4
    have c4b1 : decide (255 < a0.size) = false:=decide_eq_false (by omega)
    clear c4
    by_cases c5 : 0 < (a0.size : Int)
    ·rw [if_pos c5] at H
     have c5b0 : decide (0 < (a0.size : Int)) = true:=decide_eq_true c5
     have c5b1 : decide (0 < a0.size) = true:=decide_eq_true (by omega)
     clear c5
     replace H:=Option.bind_eq_some_iff.mp H
     obtain ⟨t143,Cm,H⟩:=H
     replace H : (if t143 = true then (bD.j0 k a0 false) else ((dN.f (bt a0 0)).bind fun Bw=>(bD.j0 k a0 (!Bw)))) = some r:=H
     have A7:=Aside0.mk Cm
     clear Cm
     by_cases c8 : t143 = true
     ·subst c8
      have H1 : (bD.j0 k a0 false) = some r:=by rw [if_pos rfl] at H;exact H
      clear H
      have H:=H1
      clear H1
      have H':=Aside0.mk H
      clear H
      have p6 : 0 ≤ (0 : Int):=(by omega)
      have q6 : 0 < a0.size:=(by have : (0 : Int) < (a0.size : Int):=of_decide_eq_true (by first|(with_reducible assumption)|assumption);omega)
      have hx6 : ∀ h : 0 < a0.size,((a0[0]'h).toNat : Int) = bt a0 0:=eU a0 0
      clear p6
      have Ci : (0 < (a0.size : Int)) = True:=eq_true (of_decide_eq_true (by first|(with_reducible assumption)|assumption))
      replace q6:=eq_true q6
      go_wp2_with (first|(go_at_call 92;(with_reducible refine (eP.calls (bt a0 0) true _ A7.out).mono ?_);rintro e w' ⟨rfl,⟨nd,rfl⟩⟩))
      go_meet
      case rel=>exact ⟨_,(false),(by first|rfl|(simp;done)|(simp [*];done)|exact congrArg Value.bool (dI _)|exact congrArg Value.bool (dI _).symm),H',⟨by first|omega|exact Nat.le_refl _⟩,by repeat (first|exact Drawn0.refl _|apply Drawn0.step)⟩
     ·replace c8:=Bool.eq_false_iff.mpr c8
      subst c8
      have H1 : ((dN.f (bt a0 0)).bind fun Bw=>(bD.j0 k a0 (!Bw))) = some r:=by rw [if_neg (show ¬ (false = true) by decide)] at H;exact H
      clear H
      have H:=H1
      clear H1
      replace H:=Option.bind_eq_some_iff.mp H
      obtain ⟨Bw,BR,H⟩:=H
      replace H : (bD.j0 k a0 (!Bw)) = some r:=H
      have Ct:=Aside0.mk BR
      clear BR
      have H':=Aside0.mk H
      clear H
      have p6 : 0 ≤ (0 : Int):=(by omega)
      have q6 : 0 < a0.size:=(by have : (0 : Int) < (a0.size : Int):=of_decide_eq_true (by first|(with_reducible assumption)|assumption);omega)
      have hx6 : ∀ h : 0 < a0.size,((a0[0]'h).toNat : Int) = bt a0 0:=eU a0 0
      clear p6
      have Ci : (0 < (a0.size : Int)) = True:=eq_true (of_decide_eq_true (by first|(with_reducible assumption)|assumption))
      replace q6:=eq_true q6
      go_wp2_with (first|(go_at_call 92;(with_reducible refine (eP.calls (bt a0 0) false _ A7.out).mono ?_);rintro e w' ⟨rfl,⟨nd,rfl⟩⟩;have p9 : 0 ≤ (0 : Int):=(by omega);have q9 : 0 < a0.size:=(by have : (0 : Int) < (a0.size : Int):=of_decide_eq_true (by first|(with_reducible assumption)|assumption);omega);have Cn : ∀ h : 0 < a0.size,((a0[0]'h).toNat : Int) = bt a0 0:=eU a0 0;clear p9;have Co : (0 < (a0.size : Int)) = True:=eq_true (of_decide_eq_true (by first|(with_reducible assumption)|assumption));replace q9:=eq_true q9)|(go_at_call 93;(with_reducible refine (dN.calls (bt a0 0) Bw _ Ct.out).mono ?_);rintro e w' ⟨rfl,⟨nd,rfl⟩⟩))
      go_meet
      case rel=>exact ⟨_,(!Bw),(by first|rfl|(simp;done)|(simp [*];done)|exact congrArg Value.bool (dI _)|exact congrArg Value.bool (dI _).symm),H',⟨by first|omega|exact Nat.le_refl _⟩,by repeat (first|exact Drawn0.refl _|apply Drawn0.step)⟩
    ·rw [if_neg c5] at H
     exact absurd H (by simp)
 case rest =>
  clear Ch
  try clear p2
  try clear c3
  try clear c3b0
  try clear c3b1
  try clear c4
  try clear c4b0
  try clear c4b1
  try clear c5
  try clear c5b0
  try clear c5b1
  try clear p6
  try clear q6
  try clear hx6
  try clear Ci
  try clear c8
  try clear p9
  try clear q9
  try clear Cn
  try clear Co
  try clear p6
  try clear p9
  try clear q6
  try clear q9
  obtain ⟨kq,Bz,rfl,HA,BJ,⟨Cu,rfl⟩⟩:=hcut
  cases kq with
  | zero=>exact absurd HA.out (by simp [bD.j0])
  | succ Cj =>
   have H:=HA.out
   clear HA
   simp only [bD.j0] at H
   by_cases c11 : Bz = true
   ·subst c11
    have H1 : (some false) = some r:=by rw [if_pos rfl] at H;exact H
    clear H
    have H:=H1
    clear H1
    obtain rfl:=Option.some.inj H
    go_wp2
    go_ret
    exact ⟨by first|rfl|(simp;done)|(simp [*];done),by repeat (first|exact Drawn0.refl _|apply Drawn0.step)⟩
   ·replace c11:=Bool.eq_false_iff.mpr c11
    subst c11
    have H1 : (bD.l0 Cj a0 (a0.size : Int) 0) = some r:=by rw [if_neg (show ¬ (false = true) by decide)] at H;exact H
    clear H
    have H:=H1
    clear H1
    have H':=Aside0.mk H
    clear H
    go_wp2
    go_loopg [25] Cj (fun kq v25 w'=>∃ (Bu : Int),v25 = .int .i64 Bu ∧ Aside0 (bD.l0 kq a0 (a0.size : Int) Bu = some r) ∧ Aside0 (kq ≤ Cj) ∧ Drawn0 w w')
    case atStart=>exact ⟨(0),(by first|rfl|(simp;done)|(simp [*];done)|exact congrArg Value.bool (dI _)|exact congrArg Value.bool (dI _).symm),H',⟨Nat.le_refl _⟩,by repeat (first|exact Drawn0.refl _|apply Drawn0.step)⟩
    case round =>
     clear H'
     try clear c1
     try clear p2
     try clear c3
     try clear c3b0
     try clear c3b1
     try clear c4
     try clear c4b0
     try clear c4b1
     try clear c5
     try clear c5b0
     try clear c5b1
     try clear p6
     try clear q6
     try clear hx6
     try clear Ci
     try clear c8
     try clear p9
     try clear q9
     try clear Cn
     try clear Co
     try clear c11
     try clear p2
     try clear p6
     try clear p9
     try clear q6
     try clear q9
     obtain ⟨Bu,rfl,HA,BK,⟨m2,rfl⟩⟩:=hrel
     cases gk with
     | zero=>exact absurd HA.out (by simp [bD.l0])
     | succ k2 =>
      have H:=HA.out
      clear HA
      simp only [bD.l0] at H
      by_cases c12 : Bu < (a0.size : Int)
      ·rw [if_pos c12] at H
       have c12b0 : decide (Bu < (a0.size : Int)) = true:=decide_eq_true c12
       clear c12
       by_cases c13 : 0 ≤ Bu
       ·rw [if_pos c13] at H
        have c13b0 : decide (0 ≤ Bu) = true:=decide_eq_true c13
        clear c13
        by_cases c14 : Bu < (a0.size : Int)
        ·rw [if_pos c14] at H
         have c14b0 : decide (Bu < (a0.size : Int)) = true:=decide_eq_true c14
         clear c14
         replace H:=Option.bind_eq_some_iff.mp H
         obtain ⟨t145,BS,H⟩:=H
         replace H : (if t145 = true then (bD.l0 k2 a0 (a0.size : Int) (wrap64 (Bu + 1))) else ((fT.f (bt a0 Bu)).bind fun t146=>(if t146 = true then (bD.l0 k2 a0 (a0.size : Int) (wrap64 (Bu + 1))) else ((dN.f (bt a0 Bu)).bind fun Bv=>(if Bv = true then (bD.l0 k2 a0 (a0.size : Int) (wrap64 (Bu + 1))) else ((strings_IndexByte.f (⟨#[46,95,45,47,58,64]⟩ : ByteArray) (bt a0 Bu)).bind fun t148=>(if t148 < 0 then (some false) else (bD.l0 k2 a0 (a0.size : Int) (wrap64 (Bu + 1)))))))))) = some r:=H
         have BU:=Aside0.mk BS
         clear BS
         by_cases c17 : t145 = true
         ·subst c17
          have H1 : (bD.l0 k2 a0 (a0.size : Int) (wrap64 (Bu + 1))) = some r:=by rw [if_pos rfl] at H;exact H
          clear H
          have H:=H1
          clear H1
          have H':=Aside0.mk H
          clear H
          have BD : 0 ≤ (Bu : Int):=of_decide_eq_true (by first|(with_reducible assumption)|assumption)
          have BF : Bu < (a0.size : Int):=of_decide_eq_true (by first|(with_reducible assumption)|assumption)
          have BI:=eU a0 Bu
          replace BD:=eq_true BD
          replace BF:=eq_true BF
          go_wp2_with (first|((with_reducible refine bO (f:=92) rfl ?_);refine dZ (some 31) rfl rfl Tryz.func92 (by kernel_rfl) rfl #[.int .u8 (bt a0 Bu)] rfl (by (try simp only [List.map_toArray,List.map_cons,List.map_nil]);first|done|rfl|(simp only [List.length_drop,List.length_take];rfl)|(simp (disch:=first|omega|(simp at *;omega)) only [eu,dD,fA];rfl)) ?_;(with_reducible refine (eP.calls (bt a0 Bu) true _ BU.out).mono ?_);rintro e w' ⟨rfl,⟨nd,rfl⟩⟩;refine ⟨_,rfl,?_⟩))
          go_roundg k2
          case measure=>have:=BJ.out;have:=BK.out;omega
          case rel=>exact ⟨(wrap64 (Bu + 1)),(by first|rfl|(simp;done)|(simp [*];done)|exact congrArg Value.bool (dI _)|exact congrArg Value.bool (dI _).symm),H',⟨by have:=BJ.out;have:=BK.out;omega⟩,by repeat (first|exact Drawn0.refl _|apply Drawn0.step)⟩
         ·replace c17:=Bool.eq_false_iff.mpr c17
          subst c17
          have H1 : ((fT.f (bt a0 Bu)).bind fun t146=>(if t146 = true then (bD.l0 k2 a0 (a0.size : Int) (wrap64 (Bu + 1))) else ((dN.f (bt a0 Bu)).bind fun Bv=>(if Bv = true then (bD.l0 k2 a0 (a0.size : Int) (wrap64 (Bu + 1))) else ((strings_IndexByte.f (⟨#[46,95,45,47,58,64]⟩ : ByteArray) (bt a0 Bu)).bind fun t148=>(if t148 < 0 then (some false) else (bD.l0 k2 a0 (a0.size : Int) (wrap64 (Bu + 1))))))))) = some r:=by rw [if_neg (show ¬ (false = true) by decide)] at H;exact H
          clear H
          have H:=H1
          clear H1
          replace H:=Option.bind_eq_some_iff.mp H
          obtain ⟨t146,BZ,H⟩:=H
          replace H : (if t146 = true then (bD.l0 k2 a0 (a0.size : Int) (wrap64 (Bu + 1))) else ((dN.f (bt a0 Bu)).bind fun Bv=>(if Bv = true then (bD.l0 k2 a0 (a0.size : Int) (wrap64 (Bu + 1))) else ((strings_IndexByte.f (⟨#[46,95,45,47,58,64]⟩ : ByteArray) (bt a0 Bu)).bind fun t148=>(if t148 < 0 then (some false) else (bD.l0 k2 a0 (a0.size : Int) (wrap64 (Bu + 1)))))))) = some r:=H
          have Cg:=Aside0.mk BZ
          clear BZ
          by_cases c20 : t146 = true
          ·subst c20
           have H1 : (bD.l0 k2 a0 (a0.size : Int) (wrap64 (Bu + 1))) = some r:=by rw [if_pos rfl] at H;exact H
           clear H
           have H:=H1
           clear H1
           have H':=Aside0.mk H
           clear H
           have BD : 0 ≤ (Bu : Int):=of_decide_eq_true (by first|(with_reducible assumption)|assumption)
           have BF : Bu < (a0.size : Int):=of_decide_eq_true (by first|(with_reducible assumption)|assumption)
           have BI:=eU a0 Bu
           replace BD:=eq_true BD
           replace BF:=eq_true BF
           go_wp2_with (first|((with_reducible refine bO (f:=92) rfl ?_);refine dZ (some 31) rfl rfl Tryz.func92 (by kernel_rfl) rfl #[.int .u8 (bt a0 Bu)] rfl (by (try simp only [List.map_toArray,List.map_cons,List.map_nil]);first|done|rfl|(simp only [List.length_drop,List.length_take];rfl)|(simp (disch:=first|omega|(simp at *;omega)) only [eu,dD,fA];rfl)) ?_;(with_reducible refine (eP.calls (bt a0 Bu) false _ BU.out).mono ?_);rintro e w' ⟨rfl,⟨nd,rfl⟩⟩;refine ⟨_,rfl,?_⟩;have BG : 0 ≤ (Bu : Int):=of_decide_eq_true (by first|(with_reducible assumption)|assumption);have BH : Bu < (a0.size : Int):=of_decide_eq_true (by first|(with_reducible assumption)|assumption);have BP:=eU a0 Bu;replace BG:=eq_true BG;replace BH:=eq_true BH)|(go_at_call 95;(with_reducible refine (fT.calls (bt a0 Bu) true _ Cg.out).mono ?_);rintro e w' ⟨rfl,⟨nd,rfl⟩⟩))
           go_roundg k2
           case measure=>have:=BJ.out;have:=BK.out;omega
           case rel=>exact ⟨(wrap64 (Bu + 1)),(by first|rfl|(simp;done)|(simp [*];done)|exact congrArg Value.bool (dI _)|exact congrArg Value.bool (dI _).symm),H',⟨by have:=BJ.out;have:=BK.out;omega⟩,by repeat (first|exact Drawn0.refl _|apply Drawn0.step)⟩
          ·replace c20:=Bool.eq_false_iff.mpr c20
           subst c20
           have H1 : ((dN.f (bt a0 Bu)).bind fun Bv=>(if Bv = true then (bD.l0 k2 a0 (a0.size : Int) (wrap64 (Bu + 1))) else ((strings_IndexByte.f (⟨#[46,95,45,47,58,64]⟩ : ByteArray) (bt a0 Bu)).bind fun t148=>(if t148 < 0 then (some false) else (bD.l0 k2 a0 (a0.size : Int) (wrap64 (Bu + 1))))))) = some r:=by rw [if_neg (show ¬ (false = true) by decide)] at H;exact H
           clear H
           have H:=H1
           clear H1
           replace H:=Option.bind_eq_some_iff.mp H
           obtain ⟨Bv,Ca,H⟩:=H
           replace H : (if Bv = true then (bD.l0 k2 a0 (a0.size : Int) (wrap64 (Bu + 1))) else ((strings_IndexByte.f (⟨#[46,95,45,47,58,64]⟩ : ByteArray) (bt a0 Bu)).bind fun t148=>(if t148 < 0 then (some false) else (bD.l0 k2 a0 (a0.size : Int) (wrap64 (Bu + 1)))))) = some r:=H
           have Ck:=Aside0.mk Ca
           clear Ca
           by_cases c23 : Bv = true
           ·subst c23
            have H1 : (bD.l0 k2 a0 (a0.size : Int) (wrap64 (Bu + 1))) = some r:=by rw [if_pos rfl] at H;exact H
            clear H
            have H:=H1
            clear H1
            have H':=Aside0.mk H
            clear H
            have BD : 0 ≤ (Bu : Int):=of_decide_eq_true (by first|(with_reducible assumption)|assumption)
            have BF : Bu < (a0.size : Int):=of_decide_eq_true (by first|(with_reducible assumption)|assumption)
            have BI:=eU a0 Bu
            replace BD:=eq_true BD
            replace BF:=eq_true BF
            go_wp2_with (first|((with_reducible refine bO (f:=92) rfl ?_);refine dZ (some 31) rfl rfl Tryz.func92 (by kernel_rfl) rfl #[.int .u8 (bt a0 Bu)] rfl (by (try simp only [List.map_toArray,List.map_cons,List.map_nil]);first|done|rfl|(simp only [List.length_drop,List.length_take];rfl)|(simp (disch:=first|omega|(simp at *;omega)) only [eu,dD,fA];rfl)) ?_;(with_reducible refine (eP.calls (bt a0 Bu) false _ BU.out).mono ?_);rintro e w' ⟨rfl,⟨nd,rfl⟩⟩;refine ⟨_,rfl,?_⟩;have BG : 0 ≤ (Bu : Int):=of_decide_eq_true (by first|(with_reducible assumption)|assumption);have BH : Bu < (a0.size : Int):=of_decide_eq_true (by first|(with_reducible assumption)|assumption);have BP:=eU a0 Bu;replace BG:=eq_true BG;replace BH:=eq_true BH)|(go_at_call 95;(with_reducible refine (fT.calls (bt a0 Bu) false _ Cg.out).mono ?_);rintro e w' ⟨rfl,⟨nd,rfl⟩⟩;have BL : 0 ≤ (Bu : Int):=of_decide_eq_true (by first|(with_reducible assumption)|assumption);have BN : Bu < (a0.size : Int):=of_decide_eq_true (by first|(with_reducible assumption)|assumption);have Cb:=eU a0 Bu;replace BL:=eq_true BL;replace BN:=eq_true BN)|(go_at_call 93;(with_reducible refine (dN.calls (bt a0 Bu) true _ Ck.out).mono ?_);rintro e w' ⟨rfl,⟨nd,rfl⟩⟩))
            go_roundg k2
            case measure=>have:=BJ.out;have:=BK.out;omega
            case rel=>exact ⟨(wrap64 (Bu + 1)),(by first|rfl|(simp;done)|(simp [*];done)|exact congrArg Value.bool (dI _)|exact congrArg Value.bool (dI _).symm),H',⟨by have:=BJ.out;have:=BK.out;omega⟩,by repeat (first|exact Drawn0.refl _|apply Drawn0.step)⟩
           ·replace c23:=Bool.eq_false_iff.mpr c23
            subst c23
            have H1 : ((strings_IndexByte.f (⟨#[46,95,45,47,58,64]⟩ : ByteArray) (bt a0 Bu)).bind fun t148=>(if t148 < 0 then (some false) else (bD.l0 k2 a0 (a0.size : Int) (wrap64 (Bu + 1))))) = some r:=by rw [if_neg (show ¬ (false = true) by decide)] at H;exact H
            clear H
            have H:=H1
            clear H1
            replace H:=Option.bind_eq_some_iff.mp H
            obtain ⟨t148,Cc,H⟩:=H
            replace H : (if t148 < 0 then (some false) else (bD.l0 k2 a0 (a0.size : Int) (wrap64 (Bu + 1)))) = some r:=H
            have Cq:=Aside0.mk Cc
            clear Cc
            by_cases BQ : t148 < 0
            ·rw [if_pos BQ] at H
             have c26b0 : decide (t148 < 0) = true:=decide_eq_true BQ
             clear BQ
             obtain rfl:=Option.some.inj H
             have BD : 0 ≤ (Bu : Int):=of_decide_eq_true (by first|(with_reducible assumption)|assumption)
             have BF : Bu < (a0.size : Int):=of_decide_eq_true (by first|(with_reducible assumption)|assumption)
             have BI:=eU a0 Bu
             replace BD:=eq_true BD
             replace BF:=eq_true BF
             go_wp2_with (first|((with_reducible refine bO (f:=92) rfl ?_);refine dZ (some 31) rfl rfl Tryz.func92 (by kernel_rfl) rfl #[.int .u8 (bt a0 Bu)] rfl (by (try simp only [List.map_toArray,List.map_cons,List.map_nil]);first|done|rfl|(simp only [List.length_drop,List.length_take];rfl)|(simp (disch:=first|omega|(simp at *;omega)) only [eu,dD,fA];rfl)) ?_;(with_reducible refine (eP.calls (bt a0 Bu) false _ BU.out).mono ?_);rintro e w' ⟨rfl,⟨nd,rfl⟩⟩;refine ⟨_,rfl,?_⟩;have BG : 0 ≤ (Bu : Int):=of_decide_eq_true (by first|(with_reducible assumption)|assumption);have BH : Bu < (a0.size : Int):=of_decide_eq_true (by first|(with_reducible assumption)|assumption);have BP:=eU a0 Bu;replace BG:=eq_true BG;replace BH:=eq_true BH)|(go_at_call 95;(with_reducible refine (fT.calls (bt a0 Bu) false _ Cg.out).mono ?_);rintro e w' ⟨rfl,⟨nd,rfl⟩⟩;have BL : 0 ≤ (Bu : Int):=of_decide_eq_true (by first|(with_reducible assumption)|assumption);have BN : Bu < (a0.size : Int):=of_decide_eq_true (by first|(with_reducible assumption)|assumption);have Cb:=eU a0 Bu;replace BL:=eq_true BL;replace BN:=eq_true BN)|(go_at_call 93;(with_reducible refine (dN.calls (bt a0 Bu) false _ Ck.out).mono ?_);rintro e w' ⟨rfl,⟨nd,rfl⟩⟩;have Ce : 0 ≤ (Bu : Int):=of_decide_eq_true (by first|(with_reducible assumption)|assumption);have q24 : Bu < (a0.size : Int):=of_decide_eq_true (by first|(with_reducible assumption)|assumption);have hx24:=eU a0 Bu;replace Ce:=eq_true Ce;replace q24:=eq_true q24)|(go_at_call 113;(with_reducible refine (strings_IndexByte.calls (⟨#[46,95,45,47,58,64]⟩ : ByteArray) (bt a0 Bu) t148 _ Cq.out).mono ?_);rintro e w' ⟨rfl,⟨nd,rfl⟩⟩))
             go_ret
             exact ⟨by first|rfl|(simp;done)|(simp [*];done),by repeat (first|exact Drawn0.refl _|apply Drawn0.step)⟩
            ·rw [if_neg BQ] at H
             have c26b0 : decide (t148 < 0) = false:=decide_eq_false BQ
             clear BQ
             have H':=Aside0.mk H
             clear H
             have BD : 0 ≤ (Bu : Int):=of_decide_eq_true (by first|(with_reducible assumption)|assumption)
             have BF : Bu < (a0.size : Int):=of_decide_eq_true (by first|(with_reducible assumption)|assumption)
             have BI:=eU a0 Bu
             replace BD:=eq_true BD
             replace BF:=eq_true BF
             go_wp2_with (first|((with_reducible refine bO (f:=92) rfl ?_);refine dZ (some 31) rfl rfl Tryz.func92 (by kernel_rfl) rfl #[.int .u8 (bt a0 Bu)] rfl (by (try simp only [List.map_toArray,List.map_cons,List.map_nil]);first|done|rfl|(simp only [List.length_drop,List.length_take];rfl)|(simp (disch:=first|omega|(simp at *;omega)) only [eu,dD,fA];rfl)) ?_;(with_reducible refine (eP.calls (bt a0 Bu) false _ BU.out).mono ?_);rintro e w' ⟨rfl,⟨nd,rfl⟩⟩;refine ⟨_,rfl,?_⟩;have BG : 0 ≤ (Bu : Int):=of_decide_eq_true (by first|(with_reducible assumption)|assumption);have BH : Bu < (a0.size : Int):=of_decide_eq_true (by first|(with_reducible assumption)|assumption);have BP:=eU a0 Bu;replace BG:=eq_true BG;replace BH:=eq_true BH)|(go_at_call 95;(with_reducible refine (fT.calls (bt a0 Bu) false _ Cg.out).mono ?_);rintro e w' ⟨rfl,⟨nd,rfl⟩⟩;have BL : 0 ≤ (Bu : Int):=of_decide_eq_true (by first|(with_reducible assumption)|assumption);have BN : Bu < (a0.size : Int):=of_decide_eq_true (by first|(with_reducible assumption)|assumption);have Cb:=eU a0 Bu;replace BL:=eq_true BL;replace BN:=eq_true BN)|(go_at_call 93;(with_reducible refine (dN.calls (bt a0 Bu) false _ Ck.out).mono ?_);rintro e w' ⟨rfl,⟨nd,rfl⟩⟩;have Ce : 0 ≤ (Bu : Int):=of_decide_eq_true (by first|(with_reducible assumption)|assumption);have q24 : Bu < (a0.size : Int):=of_decide_eq_true (by first|(with_reducible assumption)|assumption);have hx24:=eU a0 Bu;replace Ce:=eq_true Ce;replace q24:=eq_true q24)|(go_at_call 113;(with_reducible refine (strings_IndexByte.calls (⟨#[46,95,45,47,58,64]⟩ : ByteArray) (bt a0 Bu) t148 _ Cq.out).mono ?_);rintro e w' ⟨rfl,⟨nd,rfl⟩⟩))
             go_roundg k2
             case measure=>have:=BJ.out;have:=BK.out;omega
             case rel=>exact ⟨(wrap64 (Bu + 1)),(by first|rfl|(simp;done)|(simp [*];done)|exact congrArg Value.bool (dI _)|exact congrArg Value.bool (dI _).symm),H',⟨by have:=BJ.out;have:=BK.out;omega⟩,by repeat (first|exact Drawn0.refl _|apply Drawn0.step)⟩
        ·rw [if_neg c14] at H
         exact absurd H (by simp)
       ·rw [if_neg c13] at H
        exact absurd H (by simp)
      ·rw [if_neg c12] at H
       have c12b0 : decide (Bu < (a0.size : Int)) = false:=decide_eq_false c12
       clear c12
       obtain rfl:=Option.some.inj H
       go_wp2
       go_ret
       exact ⟨by first|rfl|(simp;done)|(simp [*];done),by repeat (first|exact Drawn0.refl _|apply Drawn0.step)⟩
end Go.Proofs.YtpncpefppifgdaaGreatDoor.GUt
