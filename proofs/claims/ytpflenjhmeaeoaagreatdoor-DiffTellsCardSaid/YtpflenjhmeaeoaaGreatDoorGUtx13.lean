/- Written by this session's own program (wip/gen.py) out of the translation: plain Lean functions of the Go functions, and proofs that the calls come to their answers. No conditions beside those in the statements. -/
import Derived.Test.YtpflenjhmeaeoaaGreatDoorGUtx0
import Derived.Test.YtpflenjhmeaeoaaGreatDoorGUtx10
import Derived.Test.YtpflenjhmeaeoaaGreatDoorGUtIndex
namespace Go.Proofs.YtpflenjhmeaeoaaGreatDoor.GUt
open Go.RowKit Go.Proofs.YtpflenjhmeaeoaaGreatDoorW.PrintWords Go.Proofs.YtpflenjhmeaeoaaGreatDoorW.PrintLast Go.Proofs.YtpflenjhmeaeoaaGreatDoorW.PrintMore
attribute [local go_sem] fJ fK gH gI eO eP fM fO
set_option linter.unusedVariables false
set_option linter.unusedSimpArgs false
mutual
def bE.j0 : Nat → ByteArray → Bool → Option (Bool)
 | 0,_,_=>none
 | k + 1,x0,BX=>if BX = true then (some false) else (bE.l0 k x0 (x0.size : Int) 0)
def bE.l0 : Nat → ByteArray → Int → Int → Option (Bool)
 | 0,_,_,_=>none
 | k + 1,x0,x24,x25=>if x25 < x24 then (if 0 ≤ x25 then (if x25 < (x0.size : Int) then ((eU.f (bt x0 x25)).bind fun Bp=>(if Bp = true then (bE.l0 k x0 x24 (wrap64 (x25 + 1))) else ((gM.f (bt x0 x25)).bind fun t208=>(if t208 = true then (bE.l0 k x0 x24 (wrap64 (x25 + 1))) else ((dP.f (bt x0 x25)).bind fun Bf=>(if Bf = true then (bE.l0 k x0 x24 (wrap64 (x25 + 1))) else ((strings_IndexByte.f (⟨#[46,95,45,47,58,64]⟩ : ByteArray) (bt x0 x25)).bind fun t210=>(if t210 < 0 then (some false) else (bE.l0 k x0 x24 (wrap64 (x25 + 1))))))))))) else (none)) else (none)) else (some true)
end
def bE.f (k : Nat) (a0 : ByteArray) : Option (Bool):=if a0.toList = ([] : List UInt8) then (bE.j0 k a0 true) else (if (a0.size : Int) > 255 then (bE.j0 k a0 true) else (if 0 < (a0.size : Int) then ((eU.f (bt a0 0)).bind fun Bl=>(if Bl = true then (bE.j0 k a0 false) else ((dP.f (bt a0 0)).bind fun t206=>(bE.j0 k a0 (!t206))))) else (none)))
theorem bE.dQ : ∀ k,(∀ y0 y1,LeO (bE.j0 k y0 y1) (bE.j0 (k + 1) y0 y1)) ∧ (∀ y0 y1 y2,LeO (bE.l0 k y0 y1 y2) (bE.l0 (k + 1) y0 y1 y2))
 | 0=>⟨fun _ _ r h=>by simp [bE.j0] at h,fun _ _ _ r h=>by simp [bE.l0] at h⟩
 | k + 1=>by
  obtain ⟨Bw,ih1⟩:=bE.dQ k
  refine ⟨?_,?_⟩
  ·intro y0 y1
   unfold bE.j0
   repeat' first
   | (with_reducible exact Bw _ _)
   | (with_reducible exact ih1 _ _ _)
   | (with_reducible exact LeO.refl _)
   | (with_reducible exact LeO.none _)
   | (with_reducible refine LeO.ite ?_ ?_)
   | (with_reducible refine LeO.bind ?_ (fun _=>?_))
   | exact Bw _ _
   | exact ih1 _ _ _
   | exact LeO.none _
   | refine LeO.ite ?_ ?_
   | refine LeO.bind ?_ (fun _=>?_)
  ·intro y0 y1 y2
   unfold bE.l0
   repeat' first
   | (with_reducible exact Bw _ _)
   | (with_reducible exact ih1 _ _ _)
   | (with_reducible exact LeO.refl _)
   | (with_reducible exact LeO.none _)
   | (with_reducible refine LeO.ite ?_ ?_)
   | (with_reducible refine LeO.bind ?_ (fun _=>?_))
   | exact Bw _ _
   | exact ih1 _ _ _
   | exact LeO.none _
   | refine LeO.ite ?_ ?_
   | refine LeO.bind ?_ (fun _=>?_)
theorem bE.mono : ∀ a0 k,LeO (bE.f k a0) (bE.f (k + 1) a0):=by
 intro a0 k
 obtain ⟨Bw,ih1⟩:=bE.dQ k
 unfold bE.f
 repeat' first
   | (with_reducible exact Bw _ _)
   | (with_reducible exact ih1 _ _ _)
   | (with_reducible exact LeO.refl _)
   | (with_reducible exact LeO.none _)
   | (with_reducible refine LeO.ite ?_ ?_)
   | (with_reducible refine LeO.bind ?_ (fun _=>?_))
   | exact Bw _ _
   | exact ih1 _ _ _
   | exact LeO.none _
   | refine LeO.ite ?_ ?_
   | refine LeO.bind ?_ (fun _=>?_)
set_option maxHeartbeats 8000000 in
set_option maxRecDepth 100000 in
theorem bE.calls (k : Nat) (a0 : ByteArray) (r : Bool) (w : World) (h : bE.f k a0 = some r) :
  Calls Tryz.prog 63 #[.string a0] w fun e w'=>e = .returned (.bool r) ∧ Drawn0 w w':=by
 have H : (if a0.toList = ([] : List UInt8) then (bE.j0 k a0 true) else (if (a0.size : Int) > 255 then (bE.j0 k a0 true) else (if 0 < (a0.size : Int) then ((eU.f (bt a0 0)).bind fun Bl=>(if Bl = true then (bE.j0 k a0 false) else ((dP.f (bt a0 0)).bind fun t206=>(bE.j0 k a0 (!t206))))) else (none)))) = some r:=h
 clear h
 have BP:=Aside0.mk H
 clear H
 go_enter Tryz.func63,Tryz.ntmps63
 go_upto_region 1 with (fail)
 go_cut [22] (fun v22 wc=>∃ (kq : Nat) (Bg : Bool),v22 = .bool Bg ∧ Aside0 (bE.j0 kq a0 Bg = some r) ∧ Aside0 (kq ≤ k) ∧ Drawn0 w wc)
 case first =>
  have H:=BP.out
  clear BP
  by_cases c3 : a0.toList = ([] : List UInt8)
  ·rw [if_pos c3] at H
   have c3b0 : (a0.toList == ([] : List UInt8)) = true:=beq_iff_eq.mpr c3
   have c3b1 : (a0.toList != ([] : List UInt8)) = false:=bne_eq_false_iff_eq.mpr c3
   clear c3
   (first|rw [c3b0]|(simp only [bJ,bM];rw [c3b0])|skip)
   have H':=Aside0.mk H
   clear H
   go_wp2
   go_meet
   case rel=>exact ⟨_,(true),(by first|rfl|(simp;done)|(simp [*];done)|exact congrArg Value.bool (dL _)|exact congrArg Value.bool (dL _).symm),H',⟨by first|omega|exact Nat.le_refl _⟩,by repeat (first|exact Drawn0.refl _|apply Drawn0.step)⟩
  ·rw [if_neg c3] at H
   have c3b0 : (a0.toList == ([] : List UInt8)) = false:=beq_eq_false_iff_ne.mpr c3
   have c3b1 : (a0.toList != ([] : List UInt8)) = true:=bne_iff_ne.mpr c3
   (first|rw [c3b0]|(simp only [bJ,bM];rw [c3b0])|skip)
   by_cases c4 : (a0.size : Int) > 255
   ·rw [if_pos c4] at H
    have c4b0 : decide (255 < (a0.size : Int)) = true:=decide_eq_true c4
    have c4b1 : decide (255 < a0.size) = true:=decide_eq_true (by omega)
    clear c4
    have H':=Aside0.mk H
    clear H
    go_wp2
    go_meet
    case rel=>exact ⟨_,(true),(by first|rfl|(simp;done)|(simp [*];done)|exact congrArg Value.bool (dL _)|exact congrArg Value.bool (dL _).symm),H',⟨by first|omega|exact Nat.le_refl _⟩,by repeat (first|exact Drawn0.refl _|apply Drawn0.step)⟩
   ·rw [if_neg c4] at H
    have c4b0 : decide (255 < (a0.size : Int)) = false:=decide_eq_false c4
    have c4b1 : decide (255 < a0.size) = false:=decide_eq_false (by omega)
    clear c4
    by_cases c5 : 0 < (a0.size : Int)
    ·rw [if_pos c5] at H
     have c5b0 : decide (0 < (a0.size : Int)) = true:=decide_eq_true c5
     have c5b1 : decide (0 < a0.size) = true:=decide_eq_true (by omega)
     clear c5
     replace H:=Option.bind_eq_some_iff.mp H
     obtain ⟨Bl,BS,H⟩:=H
     replace H : (if Bl = true then (bE.j0 k a0 false) else ((dP.f (bt a0 0)).bind fun t206=>(bE.j0 k a0 (!t206)))) = some r:=H
     have A7:=Aside0.mk BS
     clear BS
     by_cases c8 : Bl = true
     ·subst c8
      have H1 : (bE.j0 k a0 false) = some r:=by rw [if_pos rfl] at H;exact H
      clear H
      have H:=H1
      clear H1
      have H':=Aside0.mk H
      clear H
      have p6 : 0 ≤ (0 : Int):=(by omega)
      have q6 : 0 < a0.size:=(by have : (0 : Int) < (a0.size : Int):=of_decide_eq_true (by first|(with_reducible assumption)|assumption);omega)
      have hx6 : ∀ h : 0 < a0.size,((a0[0]'h).toNat : Int) = bt a0 0:=fB a0 0
      clear p6
      have BZ : (0 < (a0.size : Int)) = True:=eq_true (of_decide_eq_true (by first|(with_reducible assumption)|assumption))
      replace q6:=eq_true q6
      go_wp2_with (first|(go_at_call 73;(with_reducible refine (eU.calls (bt a0 0) true _ A7.out).mono ?_);rintro e w' ⟨rfl,⟨nd,rfl⟩⟩))
      go_meet
      case rel=>exact ⟨_,(false),(by first|rfl|(simp;done)|(simp [*];done)|exact congrArg Value.bool (dL _)|exact congrArg Value.bool (dL _).symm),H',⟨by first|omega|exact Nat.le_refl _⟩,by repeat (first|exact Drawn0.refl _|apply Drawn0.step)⟩
     ·replace c8:=Bool.eq_false_iff.mpr c8
      subst c8
      have H1 : ((dP.f (bt a0 0)).bind fun t206=>(bE.j0 k a0 (!t206))) = some r:=by rw [if_neg (show ¬ (false = true) by decide)] at H;exact H
      clear H
      have H:=H1
      clear H1
      replace H:=Option.bind_eq_some_iff.mp H
      obtain ⟨t206,BF,H⟩:=H
      replace H : (bE.j0 k a0 (!t206)) = some r:=H
      have Ca:=Aside0.mk BF
      clear BF
      have H':=Aside0.mk H
      clear H
      have p6 : 0 ≤ (0 : Int):=(by omega)
      have q6 : 0 < a0.size:=(by have : (0 : Int) < (a0.size : Int):=of_decide_eq_true (by first|(with_reducible assumption)|assumption);omega)
      have hx6 : ∀ h : 0 < a0.size,((a0[0]'h).toNat : Int) = bt a0 0:=fB a0 0
      clear p6
      have BZ : (0 < (a0.size : Int)) = True:=eq_true (of_decide_eq_true (by first|(with_reducible assumption)|assumption))
      replace q6:=eq_true q6
      go_wp2_with (first|(go_at_call 73;(with_reducible refine (eU.calls (bt a0 0) false _ A7.out).mono ?_);rintro e w' ⟨rfl,⟨nd,rfl⟩⟩;have p9 : 0 ≤ (0 : Int):=(by omega);have q9 : 0 < a0.size:=(by have : (0 : Int) < (a0.size : Int):=of_decide_eq_true (by first|(with_reducible assumption)|assumption);omega);have Cb : ∀ h : 0 < a0.size,((a0[0]'h).toNat : Int) = bt a0 0:=fB a0 0;clear p9;have Cc : (0 < (a0.size : Int)) = True:=eq_true (of_decide_eq_true (by first|(with_reducible assumption)|assumption));replace q9:=eq_true q9)|(go_at_call 74;(with_reducible refine (dP.calls (bt a0 0) t206 _ Ca.out).mono ?_);rintro e w' ⟨rfl,⟨nd,rfl⟩⟩))
      go_meet
      case rel=>exact ⟨_,(!t206),(by first|rfl|(simp;done)|(simp [*];done)|exact congrArg Value.bool (dL _)|exact congrArg Value.bool (dL _).symm),H',⟨by first|omega|exact Nat.le_refl _⟩,by repeat (first|exact Drawn0.refl _|apply Drawn0.step)⟩
    ·rw [if_neg c5] at H
     exact absurd H (by simp)
 case rest =>
  clear BP
  obtain ⟨kq,Bg,rfl,HA,Br,⟨Ce,rfl⟩⟩:=hcut
  cases kq with
  | zero=>exact absurd HA.out (by simp [bE.j0])
  | succ BQ =>
   have H:=HA.out
   clear HA
   simp only [bE.j0] at H
   by_cases c11 : Bg = true
   ·subst c11
    have H1 : (some false) = some r:=by rw [if_pos rfl] at H;exact H
    clear H
    have H:=H1
    clear H1
    obtain rfl:=Option.some.inj H
    go_wp2
    go_ret
    exact ⟨by first|rfl|(simp;done)|(simp [*];done),by repeat (first|exact Drawn0.refl _|apply Drawn0.step)⟩
   ·replace c11:=Bool.eq_false_iff.mpr c11
    subst c11
    have H1 : (bE.l0 BQ a0 (a0.size : Int) 0) = some r:=by rw [if_neg (show ¬ (false = true) by decide)] at H;exact H
    clear H
    have H:=H1
    clear H1
    have H':=Aside0.mk H
    clear H
    go_wp2
    go_loopg [25] BQ (fun kq v25 w'=>∃ (AZ : Int),v25 = .int .i64 AZ ∧ Aside0 (bE.l0 kq a0 (a0.size : Int) AZ = some r) ∧ Aside0 (kq ≤ BQ) ∧ Drawn0 w w')
    case atStart=>exact ⟨(0),(by first|rfl|(simp;done)|(simp [*];done)|exact congrArg Value.bool (dL _)|exact congrArg Value.bool (dL _).symm),H',⟨Nat.le_refl _⟩,by repeat (first|exact Drawn0.refl _|apply Drawn0.step)⟩
    case round =>
     clear H'
     obtain ⟨AZ,rfl,HA,Bt,⟨m2,rfl⟩⟩:=hrel
     cases gk with
     | zero=>exact absurd HA.out (by simp [bE.l0])
     | succ k2 =>
      have H:=HA.out
      clear HA
      simp only [bE.l0] at H
      by_cases c12 : AZ < (a0.size : Int)
      ·rw [if_pos c12] at H
       have c12b0 : decide (AZ < (a0.size : Int)) = true:=decide_eq_true c12
       clear c12
       by_cases c13 : 0 ≤ AZ
       ·rw [if_pos c13] at H
        have c13b0 : decide (0 ≤ AZ) = true:=decide_eq_true c13
        clear c13
        by_cases c14 : AZ < (a0.size : Int)
        ·rw [if_pos c14] at H
         have c14b0 : decide (AZ < (a0.size : Int)) = true:=decide_eq_true c14
         clear c14
         replace H:=Option.bind_eq_some_iff.mp H
         obtain ⟨Bp,BG,H⟩:=H
         replace H : (if Bp = true then (bE.l0 k2 a0 (a0.size : Int) (wrap64 (AZ + 1))) else ((gM.f (bt a0 AZ)).bind fun t208=>(if t208 = true then (bE.l0 k2 a0 (a0.size : Int) (wrap64 (AZ + 1))) else ((dP.f (bt a0 AZ)).bind fun Bf=>(if Bf = true then (bE.l0 k2 a0 (a0.size : Int) (wrap64 (AZ + 1))) else ((strings_IndexByte.f (⟨#[46,95,45,47,58,64]⟩ : ByteArray) (bt a0 AZ)).bind fun t210=>(if t210 < 0 then (some false) else (bE.l0 k2 a0 (a0.size : Int) (wrap64 (AZ + 1)))))))))) = some r:=H
         have BH:=Aside0.mk BG
         clear BG
         by_cases c17 : Bp = true
         ·subst c17
          have H1 : (bE.l0 k2 a0 (a0.size : Int) (wrap64 (AZ + 1))) = some r:=by rw [if_pos rfl] at H;exact H
          clear H
          have H:=H1
          clear H1
          have H':=Aside0.mk H
          clear H
          have Bh : 0 ≤ (AZ : Int):=of_decide_eq_true (by first|(with_reducible assumption)|assumption)
          have Bj : AZ < (a0.size : Int):=of_decide_eq_true (by first|(with_reducible assumption)|assumption)
          have Bq:=fB a0 AZ
          replace Bh:=eq_true Bh
          replace Bj:=eq_true Bj
          go_wp2_with (first|((with_reducible refine bF (f:=73) rfl ?_);refine dN (some 31) rfl rfl Tryz.func73 (by kernel_rfl) rfl #[.int .u8 (bt a0 AZ)] rfl (by (try simp only [List.map_toArray,List.map_cons,List.map_nil]);first|done|rfl|(simp only [List.length_drop,List.length_take];rfl)|(simp (disch:=first|omega|(simp at *;omega)) only [dO,dG,eH];rfl)) ?_;(with_reducible refine (eU.calls (bt a0 AZ) true _ BH.out).mono ?_);rintro e w' ⟨rfl,⟨nd,rfl⟩⟩;refine ⟨_,rfl,?_⟩))
          go_roundg k2
          case measure=>have:=Br.out;have:=Bt.out;omega
          case rel=>exact ⟨(wrap64 (AZ + 1)),(by first|rfl|(simp;done)|(simp [*];done)|exact congrArg Value.bool (dL _)|exact congrArg Value.bool (dL _).symm),H',⟨by have:=Br.out;have:=Bt.out;omega⟩,by repeat (first|exact Drawn0.refl _|apply Drawn0.step)⟩
         ·replace c17:=Bool.eq_false_iff.mpr c17
          subst c17
          have H1 : ((gM.f (bt a0 AZ)).bind fun t208=>(if t208 = true then (bE.l0 k2 a0 (a0.size : Int) (wrap64 (AZ + 1))) else ((dP.f (bt a0 AZ)).bind fun Bf=>(if Bf = true then (bE.l0 k2 a0 (a0.size : Int) (wrap64 (AZ + 1))) else ((strings_IndexByte.f (⟨#[46,95,45,47,58,64]⟩ : ByteArray) (bt a0 AZ)).bind fun t210=>(if t210 < 0 then (some false) else (bE.l0 k2 a0 (a0.size : Int) (wrap64 (AZ + 1))))))))) = some r:=by rw [if_neg (show ¬ (false = true) by decide)] at H;exact H
          clear H
          have H:=H1
          clear H1
          replace H:=Option.bind_eq_some_iff.mp H
          obtain ⟨t208,BI,H⟩:=H
          replace H : (if t208 = true then (bE.l0 k2 a0 (a0.size : Int) (wrap64 (AZ + 1))) else ((dP.f (bt a0 AZ)).bind fun Bf=>(if Bf = true then (bE.l0 k2 a0 (a0.size : Int) (wrap64 (AZ + 1))) else ((strings_IndexByte.f (⟨#[46,95,45,47,58,64]⟩ : ByteArray) (bt a0 AZ)).bind fun t210=>(if t210 < 0 then (some false) else (bE.l0 k2 a0 (a0.size : Int) (wrap64 (AZ + 1)))))))) = some r:=H
          have BO:=Aside0.mk BI
          clear BI
          by_cases c20 : t208 = true
          ·subst c20
           have H1 : (bE.l0 k2 a0 (a0.size : Int) (wrap64 (AZ + 1))) = some r:=by rw [if_pos rfl] at H;exact H
           clear H
           have H:=H1
           clear H1
           have H':=Aside0.mk H
           clear H
           have Bh : 0 ≤ (AZ : Int):=of_decide_eq_true (by first|(with_reducible assumption)|assumption)
           have Bj : AZ < (a0.size : Int):=of_decide_eq_true (by first|(with_reducible assumption)|assumption)
           have Bq:=fB a0 AZ
           replace Bh:=eq_true Bh
           replace Bj:=eq_true Bj
           go_wp2_with (first|((with_reducible refine bF (f:=73) rfl ?_);refine dN (some 31) rfl rfl Tryz.func73 (by kernel_rfl) rfl #[.int .u8 (bt a0 AZ)] rfl (by (try simp only [List.map_toArray,List.map_cons,List.map_nil]);first|done|rfl|(simp only [List.length_drop,List.length_take];rfl)|(simp (disch:=first|omega|(simp at *;omega)) only [dO,dG,eH];rfl)) ?_;(with_reducible refine (eU.calls (bt a0 AZ) false _ BH.out).mono ?_);rintro e w' ⟨rfl,⟨nd,rfl⟩⟩;refine ⟨_,rfl,?_⟩;have Bn : 0 ≤ (AZ : Int):=of_decide_eq_true (by first|(with_reducible assumption)|assumption);have Bo : AZ < (a0.size : Int):=of_decide_eq_true (by first|(with_reducible assumption)|assumption);have Bz:=fB a0 AZ;replace Bn:=eq_true Bn;replace Bo:=eq_true Bo)|(go_at_call 76;(with_reducible refine (gM.calls (bt a0 AZ) true _ BO.out).mono ?_);rintro e w' ⟨rfl,⟨nd,rfl⟩⟩))
           go_roundg k2
           case measure=>have:=Br.out;have:=Bt.out;omega
           case rel=>exact ⟨(wrap64 (AZ + 1)),(by first|rfl|(simp;done)|(simp [*];done)|exact congrArg Value.bool (dL _)|exact congrArg Value.bool (dL _).symm),H',⟨by have:=Br.out;have:=Bt.out;omega⟩,by repeat (first|exact Drawn0.refl _|apply Drawn0.step)⟩
          ·replace c20:=Bool.eq_false_iff.mpr c20
           subst c20
           have H1 : ((dP.f (bt a0 AZ)).bind fun Bf=>(if Bf = true then (bE.l0 k2 a0 (a0.size : Int) (wrap64 (AZ + 1))) else ((strings_IndexByte.f (⟨#[46,95,45,47,58,64]⟩ : ByteArray) (bt a0 AZ)).bind fun t210=>(if t210 < 0 then (some false) else (bE.l0 k2 a0 (a0.size : Int) (wrap64 (AZ + 1))))))) = some r:=by rw [if_neg (show ¬ (false = true) by decide)] at H;exact H
           clear H
           have H:=H1
           clear H1
           replace H:=Option.bind_eq_some_iff.mp H
           obtain ⟨Bf,BJ,H⟩:=H
           replace H : (if Bf = true then (bE.l0 k2 a0 (a0.size : Int) (wrap64 (AZ + 1))) else ((strings_IndexByte.f (⟨#[46,95,45,47,58,64]⟩ : ByteArray) (bt a0 AZ)).bind fun t210=>(if t210 < 0 then (some false) else (bE.l0 k2 a0 (a0.size : Int) (wrap64 (AZ + 1)))))) = some r:=H
           have BR:=Aside0.mk BJ
           clear BJ
           by_cases c23 : Bf = true
           ·subst c23
            have H1 : (bE.l0 k2 a0 (a0.size : Int) (wrap64 (AZ + 1))) = some r:=by rw [if_pos rfl] at H;exact H
            clear H
            have H:=H1
            clear H1
            have H':=Aside0.mk H
            clear H
            have Bh : 0 ≤ (AZ : Int):=of_decide_eq_true (by first|(with_reducible assumption)|assumption)
            have Bj : AZ < (a0.size : Int):=of_decide_eq_true (by first|(with_reducible assumption)|assumption)
            have Bq:=fB a0 AZ
            replace Bh:=eq_true Bh
            replace Bj:=eq_true Bj
            go_wp2_with (first|((with_reducible refine bF (f:=73) rfl ?_);refine dN (some 31) rfl rfl Tryz.func73 (by kernel_rfl) rfl #[.int .u8 (bt a0 AZ)] rfl (by (try simp only [List.map_toArray,List.map_cons,List.map_nil]);first|done|rfl|(simp only [List.length_drop,List.length_take];rfl)|(simp (disch:=first|omega|(simp at *;omega)) only [dO,dG,eH];rfl)) ?_;(with_reducible refine (eU.calls (bt a0 AZ) false _ BH.out).mono ?_);rintro e w' ⟨rfl,⟨nd,rfl⟩⟩;refine ⟨_,rfl,?_⟩;have Bn : 0 ≤ (AZ : Int):=of_decide_eq_true (by first|(with_reducible assumption)|assumption);have Bo : AZ < (a0.size : Int):=of_decide_eq_true (by first|(with_reducible assumption)|assumption);have Bz:=fB a0 AZ;replace Bn:=eq_true Bn;replace Bo:=eq_true Bo)|(go_at_call 76;(with_reducible refine (gM.calls (bt a0 AZ) false _ BO.out).mono ?_);rintro e w' ⟨rfl,⟨nd,rfl⟩⟩;have Bu : 0 ≤ (AZ : Int):=of_decide_eq_true (by first|(with_reducible assumption)|assumption);have Bv : AZ < (a0.size : Int):=of_decide_eq_true (by first|(with_reducible assumption)|assumption);have BK:=fB a0 AZ;replace Bu:=eq_true Bu;replace Bv:=eq_true Bv)|(go_at_call 74;(with_reducible refine (dP.calls (bt a0 AZ) true _ BR.out).mono ?_);rintro e w' ⟨rfl,⟨nd,rfl⟩⟩))
            go_roundg k2
            case measure=>have:=Br.out;have:=Bt.out;omega
            case rel=>exact ⟨(wrap64 (AZ + 1)),(by first|rfl|(simp;done)|(simp [*];done)|exact congrArg Value.bool (dL _)|exact congrArg Value.bool (dL _).symm),H',⟨by have:=Br.out;have:=Bt.out;omega⟩,by repeat (first|exact Drawn0.refl _|apply Drawn0.step)⟩
           ·replace c23:=Bool.eq_false_iff.mpr c23
            subst c23
            have H1 : ((strings_IndexByte.f (⟨#[46,95,45,47,58,64]⟩ : ByteArray) (bt a0 AZ)).bind fun t210=>(if t210 < 0 then (some false) else (bE.l0 k2 a0 (a0.size : Int) (wrap64 (AZ + 1))))) = some r:=by rw [if_neg (show ¬ (false = true) by decide)] at H;exact H
            clear H
            have H:=H1
            clear H1
            replace H:=Option.bind_eq_some_iff.mp H
            obtain ⟨t210,BL,H⟩:=H
            replace H : (if t210 < 0 then (some false) else (bE.l0 k2 a0 (a0.size : Int) (wrap64 (AZ + 1)))) = some r:=H
            have BU:=Aside0.mk BL
            clear BL
            by_cases BD : t210 < 0
            ·rw [if_pos BD] at H
             have c26b0 : decide (t210 < 0) = true:=decide_eq_true BD
             clear BD
             obtain rfl:=Option.some.inj H
             have Bh : 0 ≤ (AZ : Int):=of_decide_eq_true (by first|(with_reducible assumption)|assumption)
             have Bj : AZ < (a0.size : Int):=of_decide_eq_true (by first|(with_reducible assumption)|assumption)
             have Bq:=fB a0 AZ
             replace Bh:=eq_true Bh
             replace Bj:=eq_true Bj
             go_wp2_with (first|((with_reducible refine bF (f:=73) rfl ?_);refine dN (some 31) rfl rfl Tryz.func73 (by kernel_rfl) rfl #[.int .u8 (bt a0 AZ)] rfl (by (try simp only [List.map_toArray,List.map_cons,List.map_nil]);first|done|rfl|(simp only [List.length_drop,List.length_take];rfl)|(simp (disch:=first|omega|(simp at *;omega)) only [dO,dG,eH];rfl)) ?_;(with_reducible refine (eU.calls (bt a0 AZ) false _ BH.out).mono ?_);rintro e w' ⟨rfl,⟨nd,rfl⟩⟩;refine ⟨_,rfl,?_⟩;have Bn : 0 ≤ (AZ : Int):=of_decide_eq_true (by first|(with_reducible assumption)|assumption);have Bo : AZ < (a0.size : Int):=of_decide_eq_true (by first|(with_reducible assumption)|assumption);have Bz:=fB a0 AZ;replace Bn:=eq_true Bn;replace Bo:=eq_true Bo)|(go_at_call 76;(with_reducible refine (gM.calls (bt a0 AZ) false _ BO.out).mono ?_);rintro e w' ⟨rfl,⟨nd,rfl⟩⟩;have Bu : 0 ≤ (AZ : Int):=of_decide_eq_true (by first|(with_reducible assumption)|assumption);have Bv : AZ < (a0.size : Int):=of_decide_eq_true (by first|(with_reducible assumption)|assumption);have BK:=fB a0 AZ;replace Bu:=eq_true Bu;replace Bv:=eq_true Bv)|(go_at_call 74;(with_reducible refine (dP.calls (bt a0 AZ) false _ BR.out).mono ?_);rintro e w' ⟨rfl,⟨nd,rfl⟩⟩;have BN : 0 ≤ (AZ : Int):=of_decide_eq_true (by first|(with_reducible assumption)|assumption);have q24 : AZ < (a0.size : Int):=of_decide_eq_true (by first|(with_reducible assumption)|assumption);have hx24:=fB a0 AZ;replace BN:=eq_true BN;replace q24:=eq_true q24)|(go_at_call 66;(with_reducible refine (strings_IndexByte.calls (⟨#[46,95,45,47,58,64]⟩ : ByteArray) (bt a0 AZ) t210 _ BU.out).mono ?_);rintro e w' ⟨rfl,⟨nd,rfl⟩⟩))
             go_ret
             exact ⟨by first|rfl|(simp;done)|(simp [*];done),by repeat (first|exact Drawn0.refl _|apply Drawn0.step)⟩
            ·rw [if_neg BD] at H
             have c26b0 : decide (t210 < 0) = false:=decide_eq_false BD
             clear BD
             have H':=Aside0.mk H
             clear H
             have Bh : 0 ≤ (AZ : Int):=of_decide_eq_true (by first|(with_reducible assumption)|assumption)
             have Bj : AZ < (a0.size : Int):=of_decide_eq_true (by first|(with_reducible assumption)|assumption)
             have Bq:=fB a0 AZ
             replace Bh:=eq_true Bh
             replace Bj:=eq_true Bj
             go_wp2_with (first|((with_reducible refine bF (f:=73) rfl ?_);refine dN (some 31) rfl rfl Tryz.func73 (by kernel_rfl) rfl #[.int .u8 (bt a0 AZ)] rfl (by (try simp only [List.map_toArray,List.map_cons,List.map_nil]);first|done|rfl|(simp only [List.length_drop,List.length_take];rfl)|(simp (disch:=first|omega|(simp at *;omega)) only [dO,dG,eH];rfl)) ?_;(with_reducible refine (eU.calls (bt a0 AZ) false _ BH.out).mono ?_);rintro e w' ⟨rfl,⟨nd,rfl⟩⟩;refine ⟨_,rfl,?_⟩;have Bn : 0 ≤ (AZ : Int):=of_decide_eq_true (by first|(with_reducible assumption)|assumption);have Bo : AZ < (a0.size : Int):=of_decide_eq_true (by first|(with_reducible assumption)|assumption);have Bz:=fB a0 AZ;replace Bn:=eq_true Bn;replace Bo:=eq_true Bo)|(go_at_call 76;(with_reducible refine (gM.calls (bt a0 AZ) false _ BO.out).mono ?_);rintro e w' ⟨rfl,⟨nd,rfl⟩⟩;have Bu : 0 ≤ (AZ : Int):=of_decide_eq_true (by first|(with_reducible assumption)|assumption);have Bv : AZ < (a0.size : Int):=of_decide_eq_true (by first|(with_reducible assumption)|assumption);have BK:=fB a0 AZ;replace Bu:=eq_true Bu;replace Bv:=eq_true Bv)|(go_at_call 74;(with_reducible refine (dP.calls (bt a0 AZ) false _ BR.out).mono ?_);rintro e w' ⟨rfl,⟨nd,rfl⟩⟩;have BN : 0 ≤ (AZ : Int):=of_decide_eq_true (by first|(with_reducible assumption)|assumption);have q24 : AZ < (a0.size : Int):=of_decide_eq_true (by first|(with_reducible assumption)|assumption);have hx24:=fB a0 AZ;replace BN:=eq_true BN;replace q24:=eq_true q24)|(go_at_call 66;(with_reducible refine (strings_IndexByte.calls (⟨#[46,95,45,47,58,64]⟩ : ByteArray) (bt a0 AZ) t210 _ BU.out).mono ?_);rintro e w' ⟨rfl,⟨nd,rfl⟩⟩))
             go_roundg k2
             case measure=>have:=Br.out;have:=Bt.out;omega
             case rel=>exact ⟨(wrap64 (AZ + 1)),(by first|rfl|(simp;done)|(simp [*];done)|exact congrArg Value.bool (dL _)|exact congrArg Value.bool (dL _).symm),H',⟨by have:=Br.out;have:=Bt.out;omega⟩,by repeat (first|exact Drawn0.refl _|apply Drawn0.step)⟩
        ·rw [if_neg c14] at H
         exact absurd H (by simp)
       ·rw [if_neg c13] at H
        exact absurd H (by simp)
      ·rw [if_neg c12] at H
       have c12b0 : decide (AZ < (a0.size : Int)) = false:=decide_eq_false c12
       clear c12
       obtain rfl:=Option.some.inj H
       go_wp2
       go_ret
       exact ⟨by first|rfl|(simp;done)|(simp [*];done),by repeat (first|exact Drawn0.refl _|apply Drawn0.step)⟩
end Go.Proofs.YtpflenjhmeaeoaaGreatDoor.GUt
