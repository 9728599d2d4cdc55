/- Written by this session's own program (wip/gen.py) out of the translation: plain Lean functions of the Go functions, and proofs that the calls come to their answers. No conditions beside those in the statements. -/
import Derived.Test.YtpflenjhmeaeoaaDoorGUtx0
import Derived.Test.YtpflenjhmeaeoaaDoorGUtx7
namespace Go.Proofs.YtpflenjhmeaeoaaDoor.GUt
open Go.RowKit Go.Proofs.YtpflenjhmeaeoaaDoorW.PrintWords Go.Proofs.YtpflenjhmeaeoaaDoorW.PrintLast Go.Proofs.YtpflenjhmeaeoaaDoorW.PrintMore
attribute [local go_sem] fC fD gu gD eP eT fE fF
set_option linter.unusedVariables false
set_option linter.unusedSimpArgs false
mutual
def bf.j0 : Nat → ByteArray → Bool → Option (Bool)
 | 0,_,_=>none
 | k + 1,x0,Bt=>if Bt = true then (some false) else (bf.l0 k x0 (x0.size : Int) 0)
def bf.l0 : Nat → ByteArray → Int → Int → Option (Bool)
 | 0,_,_,_=>none
 | k + 1,x0,AU,x18=>if x18 < AU then (if 0 ≤ x18 then (if x18 < (x0.size : Int) then ((eu.f (bt x0 x18)).bind fun Ay=>(if Ay = true then (bf.l0 k x0 AU (wrap64 (x18 + 1))) else ((fV.f (bt x0 x18)).bind fun t196=>(if t196 = true then (bf.l0 k x0 AU (wrap64 (x18 + 1))) else ((dK.f (bt x0 x18)).bind fun Am=>(if Am = true then (bf.l0 k x0 AU (wrap64 (x18 + 1))) else (if (bt x0 x18) = 95 then (bf.l0 k x0 AU (wrap64 (x18 + 1))) else (some false)))))))) else (none)) else (none)) else (some true)
end
def bf.f (k : Nat) (a0 : ByteArray) : Option (Bool):=if a0.toList = ([] : List UInt8) then (bf.j0 k a0 true) else (if (a0.size : Int) > 63 then (bf.j0 k a0 true) else (if 0 < (a0.size : Int) then ((dK.f (bt a0 0)).bind fun t194=>(bf.j0 k a0 t194)) else (none)))
theorem bf.dV : ∀ k,(∀ y0 y1,LeO (bf.j0 k y0 y1) (bf.j0 (k + 1) y0 y1)) ∧ (∀ y0 y1 y2,LeO (bf.l0 k y0 y1 y2) (bf.l0 (k + 1) y0 y1 y2))
 | 0=>⟨fun _ _ r h=>by simp [bf.j0] at h,fun _ _ _ r h=>by simp [bf.l0] at h⟩
 | k + 1=>by
  obtain ⟨AO,ih1⟩:=bf.dV k
  refine ⟨?_,?_⟩
  ·intro y0 y1
   unfold bf.j0
   repeat' first
   | (with_reducible exact AO _ _)
   | (with_reducible exact ih1 _ _ _)
   | (with_reducible exact LeO.refl _)
   | (with_reducible exact LeO.none _)
   | (with_reducible refine LeO.ite ?_ ?_)
   | (with_reducible refine LeO.bind ?_ (fun _=>?_))
   | exact AO _ _
   | exact ih1 _ _ _
   | exact LeO.none _
   | refine LeO.ite ?_ ?_
   | refine LeO.bind ?_ (fun _=>?_)
  ·intro y0 y1 y2
   unfold bf.l0
   repeat' first
   | (with_reducible exact AO _ _)
   | (with_reducible exact ih1 _ _ _)
   | (with_reducible exact LeO.refl _)
   | (with_reducible exact LeO.none _)
   | (with_reducible refine LeO.ite ?_ ?_)
   | (with_reducible refine LeO.bind ?_ (fun _=>?_))
   | exact AO _ _
   | exact ih1 _ _ _
   | exact LeO.none _
   | refine LeO.ite ?_ ?_
   | refine LeO.bind ?_ (fun _=>?_)
theorem bf.mono : ∀ a0 k,LeO (bf.f k a0) (bf.f (k + 1) a0):=by
 intro a0 k
 obtain ⟨AO,ih1⟩:=bf.dV k
 unfold bf.f
 repeat' first
   | (with_reducible exact AO _ _)
   | (with_reducible exact ih1 _ _ _)
   | (with_reducible exact LeO.refl _)
   | (with_reducible exact LeO.none _)
   | (with_reducible refine LeO.ite ?_ ?_)
   | (with_reducible refine LeO.bind ?_ (fun _=>?_))
   | exact AO _ _
   | exact ih1 _ _ _
   | exact LeO.none _
   | refine LeO.ite ?_ ?_
   | refine LeO.bind ?_ (fun _=>?_)
set_option maxHeartbeats 8000000 in
set_option maxRecDepth 100000 in
theorem bf.calls (k : Nat) (a0 : ByteArray) (r : Bool) (w : World) (h : bf.f k a0 = some r) :
  Calls Tryd.prog 61 #[.string a0] w fun e w'=>e = .returned (.bool r) ∧ Drawn0 w w':=by
 have H : (if a0.toList = ([] : List UInt8) then (bf.j0 k a0 true) else (if (a0.size : Int) > 63 then (bf.j0 k a0 true) else (if 0 < (a0.size : Int) then ((dK.f (bt a0 0)).bind fun t194=>(bf.j0 k a0 t194)) else (none)))) = some r:=h
 clear h
 have Bl:=Aside0.mk H
 clear H
 go_enter Tryd.func61,Tryd.ntmps61
 go_upto_region 1 with (fail)
 go_cut [15] (fun v15 wc=>∃ (kq : Nat) (Ao : Bool),v15 = .bool Ao ∧ Aside0 (bf.j0 kq a0 Ao = some r) ∧ Aside0 (kq ≤ k) ∧ Drawn0 w wc)
 case first =>
  have H:=Bl.out
  clear Bl
  by_cases c3 : a0.toList = ([] : List UInt8)
  ·rw [if_pos c3] at H
   have c3b0 : (a0.toList == ([] : List UInt8)) = true:=beq_iff_eq.mpr c3
   have c3b1 : (a0.toList != ([] : List UInt8)) = false:=bne_eq_false_iff_eq.mpr c3
   clear c3
   (first|rw [c3b0]|(simp only [bH,bI];rw [c3b0])|skip)
   have H':=Aside0.mk H
   clear H
   go_wp2
   go_meet
   case rel=>exact ⟨_,(true),(by first|rfl|(simp;done)|(simp [*];done)|exact congrArg Value.bool (dh _)|exact congrArg Value.bool (dh _).symm),H',⟨by first|omega|exact Nat.le_refl _⟩,by repeat (first|exact Drawn0.refl _|apply Drawn0.step)⟩
  ·rw [if_neg c3] at H
   have c3b0 : (a0.toList == ([] : List UInt8)) = false:=beq_eq_false_iff_ne.mpr c3
   have c3b1 : (a0.toList != ([] : List UInt8)) = true:=bne_iff_ne.mpr c3
   (first|rw [c3b0]|(simp only [bH,bI];rw [c3b0])|skip)
   by_cases c4 : (a0.size : Int) > 63
   ·rw [if_pos c4] at H
    have c4b0 : decide (63 < (a0.size : Int)) = true:=decide_eq_true c4
    have c4b1 : decide (63 < a0.size) = true:=decide_eq_true (by omega)
    clear c4
    have H':=Aside0.mk H
    clear H
    go_wp2
    go_meet
    case rel=>exact ⟨_,(true),(by first|rfl|(simp;done)|(simp [*];done)|exact congrArg Value.bool (dh _)|exact congrArg Value.bool (dh _).symm),H',⟨by first|omega|exact Nat.le_refl _⟩,by repeat (first|exact Drawn0.refl _|apply Drawn0.step)⟩
   ·rw [if_neg c4] at H
    have c4b0 : decide (63 < (a0.size : Int)) = false:=decide_eq_false c4
    have c4b1 : decide (63 < a0.size) = false:=decide_eq_false (by omega)
    clear c4
    by_cases c5 : 0 < (a0.size : Int)
    ·rw [if_pos c5] at H
     have c5b0 : decide (0 < (a0.size : Int)) = true:=decide_eq_true c5
     have c5b1 : decide (0 < a0.size) = true:=decide_eq_true (by omega)
     clear c5
     replace H:=Option.bind_eq_some_iff.mp H
     obtain ⟨t194,Bq,H⟩:=H
     replace H : (bf.j0 k a0 t194) = some r:=H
     have A7:=Aside0.mk Bq
     clear Bq
     have H':=Aside0.mk H
     clear H
     have p6 : 0 ≤ (0 : Int):=(by omega)
     have q6 : 0 < a0.size:=(by have : (0 : Int) < (a0.size : Int):=of_decide_eq_true (by first|(with_reducible assumption)|assumption);omega)
     have hx6 : ∀ h : 0 < a0.size,((a0[0]'h).toNat : Int) = bt a0 0:=eG a0 0
     clear p6
     have Br : (0 < (a0.size : Int)) = True:=eq_true (of_decide_eq_true (by first|(with_reducible assumption)|assumption))
     replace q6:=eq_true q6
     go_wp2_with (first|(go_at_call 64;(with_reducible refine (dK.calls (bt a0 0) t194 _ A7.out).mono ?_);rintro e w' ⟨rfl,⟨nd,rfl⟩⟩))
     go_meet
     case rel=>exact ⟨_,(t194),(by first|rfl|(simp;done)|(simp [*];done)|exact congrArg Value.bool (dh _)|exact congrArg Value.bool (dh _).symm),H',⟨by first|omega|exact Nat.le_refl _⟩,by repeat (first|exact Drawn0.refl _|apply Drawn0.step)⟩
    ·rw [if_neg c5] at H
     exact absurd H (by simp)
 case rest =>
  clear Bl
  try clear p2
  try clear c3
  try clear c3b0
  try clear c3b1
  try clear c4
  try clear c4b0
  try clear c4b1
  try clear c5
  try clear c5b0
  try clear c5b1
  try clear c6
  try clear p6
  try clear q6
  try clear hx6
  try clear Br
  try clear p6
  try clear q6
  obtain ⟨kq,Ao,rfl,HA,AA,⟨Bu,rfl⟩⟩:=hcut
  cases kq with
  | zero=>exact absurd HA.out (by simp [bf.j0])
  | succ Bn =>
   have H:=HA.out
   clear HA
   simp only [bf.j0] at H
   by_cases c8 : Ao = true
   ·subst c8
    have H1 : (some false) = some r:=by rw [if_pos rfl] at H;exact H
    clear H
    have H:=H1
    clear H1
    obtain rfl:=Option.some.inj H
    go_wp2
    go_ret
    exact ⟨by first|rfl|(simp;done)|(simp [*];done),by repeat (first|exact Drawn0.refl _|apply Drawn0.step)⟩
   ·replace c8:=Bool.eq_false_iff.mpr c8
    subst c8
    have H1 : (bf.l0 Bn a0 (a0.size : Int) 0) = some r:=by rw [if_neg (show ¬ (false = true) by decide)] at H;exact H
    clear H
    have H:=H1
    clear H1
    have H':=Aside0.mk H
    clear H
    go_wp2
    go_loopg [18] Bn (fun kq v18 w'=>∃ (Al : Int),v18 = .int .i64 Al ∧ Aside0 (bf.l0 kq a0 (a0.size : Int) Al = some r) ∧ Aside0 (kq ≤ Bn) ∧ Drawn0 w w')
    case atStart=>exact ⟨(0),(by first|rfl|(simp;done)|(simp [*];done)|exact congrArg Value.bool (dh _)|exact congrArg Value.bool (dh _).symm),H',⟨Nat.le_refl _⟩,by repeat (first|exact Drawn0.refl _|apply Drawn0.step)⟩
    case round =>
     clear H'
     try clear c1
     try clear p2
     try clear c3
     try clear c3b0
     try clear c3b1
     try clear c4
     try clear c4b0
     try clear c4b1
     try clear c5
     try clear c5b0
     try clear c5b1
     try clear c6
     try clear p6
     try clear q6
     try clear hx6
     try clear Br
     try clear c8
     try clear p2
     try clear p6
     try clear q6
     obtain ⟨Al,rfl,HA,AB,⟨m2,rfl⟩⟩:=hrel
     cases gk with
     | zero=>exact absurd HA.out (by simp [bf.l0])
     | succ k2 =>
      have H:=HA.out
      clear HA
      simp only [bf.l0] at H
      by_cases c9 : Al < (a0.size : Int)
      ·rw [if_pos c9] at H
       have c9b0 : decide (Al < (a0.size : Int)) = true:=decide_eq_true c9
       clear c9
       by_cases c10 : 0 ≤ Al
       ·rw [if_pos c10] at H
        have c10b0 : decide (0 ≤ Al) = true:=decide_eq_true c10
        clear c10
        by_cases c11 : Al < (a0.size : Int)
        ·rw [if_pos c11] at H
         have c11b0 : decide (Al < (a0.size : Int)) = true:=decide_eq_true c11
         clear c11
         replace H:=Option.bind_eq_some_iff.mp H
         obtain ⟨Ay,AV,H⟩:=H
         replace H : (if Ay = true then (bf.l0 k2 a0 (a0.size : Int) (wrap64 (Al + 1))) else ((fV.f (bt a0 Al)).bind fun t196=>(if t196 = true then (bf.l0 k2 a0 (a0.size : Int) (wrap64 (Al + 1))) else ((dK.f (bt a0 Al)).bind fun Am=>(if Am = true then (bf.l0 k2 a0 (a0.size : Int) (wrap64 (Al + 1))) else (if (bt a0 Al) = 95 then (bf.l0 k2 a0 (a0.size : Int) (wrap64 (Al + 1))) else (some false))))))) = some r:=H
         have AX:=Aside0.mk AV
         clear AV
         by_cases c14 : Ay = true
         ·subst c14
          have H1 : (bf.l0 k2 a0 (a0.size : Int) (wrap64 (Al + 1))) = some r:=by rw [if_pos rfl] at H;exact H
          clear H
          have H:=H1
          clear H1
          have H':=Aside0.mk H
          clear H
          have Ap : 0 ≤ (Al : Int):=of_decide_eq_true (by first|(with_reducible assumption)|assumption)
          have Aq : Al < (a0.size : Int):=of_decide_eq_true (by first|(with_reducible assumption)|assumption)
          have Az:=eG a0 Al
          replace Ap:=eq_true Ap
          replace Aq:=eq_true Aq
          go_wp2_with (first|((with_reducible refine bq (f:=63) rfl ?_);refine cO (some 24) rfl rfl Tryd.func63 (by kernel_rfl) rfl #[.int .u8 (bt a0 Al)] rfl (by (try simp only [List.map_toArray,List.map_cons,List.map_nil]);first|done|rfl|(simp only [List.length_drop,List.length_take];rfl)|(simp (disch:=first|omega|(simp at *;omega)) only [cZ,bS,dQ];rfl)) ?_;(with_reducible refine (eu.calls (bt a0 Al) true _ AX.out).mono ?_);rintro e w' ⟨rfl,⟨nd,rfl⟩⟩;refine ⟨_,rfl,?_⟩))
          go_roundg k2
          case measure=>have:=AA.out;have:=AB.out;omega
          case rel=>exact ⟨(wrap64 (Al + 1)),(by first|rfl|(simp;done)|(simp [*];done)|exact congrArg Value.bool (dh _)|exact congrArg Value.bool (dh _).symm),H',⟨by have:=AA.out;have:=AB.out;omega⟩,by repeat (first|exact Drawn0.refl _|apply Drawn0.step)⟩
         ·replace c14:=Bool.eq_false_iff.mpr c14
          subst c14
          have H1 : ((fV.f (bt a0 Al)).bind fun t196=>(if t196 = true then (bf.l0 k2 a0 (a0.size : Int) (wrap64 (Al + 1))) else ((dK.f (bt a0 Al)).bind fun Am=>(if Am = true then (bf.l0 k2 a0 (a0.size : Int) (wrap64 (Al + 1))) else (if (bt a0 Al) = 95 then (bf.l0 k2 a0 (a0.size : Int) (wrap64 (Al + 1))) else (some false)))))) = some r:=by rw [if_neg (show ¬ (false = true) by decide)] at H;exact H
          clear H
          have H:=H1
          clear H1
          replace H:=Option.bind_eq_some_iff.mp H
          obtain ⟨t196,AY,H⟩:=H
          replace H : (if t196 = true then (bf.l0 k2 a0 (a0.size : Int) (wrap64 (Al + 1))) else ((dK.f (bt a0 Al)).bind fun Am=>(if Am = true then (bf.l0 k2 a0 (a0.size : Int) (wrap64 (Al + 1))) else (if (bt a0 Al) = 95 then (bf.l0 k2 a0 (a0.size : Int) (wrap64 (Al + 1))) else (some false))))) = some r:=H
          have Bj:=Aside0.mk AY
          clear AY
          by_cases c17 : t196 = true
          ·subst c17
           have H1 : (bf.l0 k2 a0 (a0.size : Int) (wrap64 (Al + 1))) = some r:=by rw [if_pos rfl] at H;exact H
           clear H
           have H:=H1
           clear H1
           have H':=Aside0.mk H
           clear H
           have Ap : 0 ≤ (Al : Int):=of_decide_eq_true (by first|(with_reducible assumption)|assumption)
           have Aq : Al < (a0.size : Int):=of_decide_eq_true (by first|(with_reducible assumption)|assumption)
           have Az:=eG a0 Al
           replace Ap:=eq_true Ap
           replace Aq:=eq_true Aq
           go_wp2_with (first|((with_reducible refine bq (f:=63) rfl ?_);refine cO (some 24) rfl rfl Tryd.func63 (by kernel_rfl) rfl #[.int .u8 (bt a0 Al)] rfl (by (try simp only [List.map_toArray,List.map_cons,List.map_nil]);first|done|rfl|(simp only [List.length_drop,List.length_take];rfl)|(simp (disch:=first|omega|(simp at *;omega)) only [cZ,bS,dQ];rfl)) ?_;(with_reducible refine (eu.calls (bt a0 Al) false _ AX.out).mono ?_);rintro e w' ⟨rfl,⟨nd,rfl⟩⟩;refine ⟨_,rfl,?_⟩;have Au : 0 ≤ (Al : Int):=of_decide_eq_true (by first|(with_reducible assumption)|assumption);have Aw : Al < (a0.size : Int):=of_decide_eq_true (by first|(with_reducible assumption)|assumption);have AP:=eG a0 Al;replace Au:=eq_true Au;replace Aw:=eq_true Aw)|(go_at_call 65;(with_reducible refine (fV.calls (bt a0 Al) true _ Bj.out).mono ?_);rintro e w' ⟨rfl,⟨nd,rfl⟩⟩))
           go_roundg k2
           case measure=>have:=AA.out;have:=AB.out;omega
           case rel=>exact ⟨(wrap64 (Al + 1)),(by first|rfl|(simp;done)|(simp [*];done)|exact congrArg Value.bool (dh _)|exact congrArg Value.bool (dh _).symm),H',⟨by have:=AA.out;have:=AB.out;omega⟩,by repeat (first|exact Drawn0.refl _|apply Drawn0.step)⟩
          ·replace c17:=Bool.eq_false_iff.mpr c17
           subst c17
           have H1 : ((dK.f (bt a0 Al)).bind fun Am=>(if Am = true then (bf.l0 k2 a0 (a0.size : Int) (wrap64 (Al + 1))) else (if (bt a0 Al) = 95 then (bf.l0 k2 a0 (a0.size : Int) (wrap64 (Al + 1))) else (some false)))) = some r:=by rw [if_neg (show ¬ (false = true) by decide)] at H;exact H
           clear H
           have H:=H1
           clear H1
           replace H:=Option.bind_eq_some_iff.mp H
           obtain ⟨Am,AZ,H⟩:=H
           replace H : (if Am = true then (bf.l0 k2 a0 (a0.size : Int) (wrap64 (Al + 1))) else (if (bt a0 Al) = 95 then (bf.l0 k2 a0 (a0.size : Int) (wrap64 (Al + 1))) else (some false))) = some r:=H
           have Bo:=Aside0.mk AZ
           clear AZ
           by_cases c20 : Am = true
           ·subst c20
            have H1 : (bf.l0 k2 a0 (a0.size : Int) (wrap64 (Al + 1))) = some r:=by rw [if_pos rfl] at H;exact H
            clear H
            have H:=H1
            clear H1
            have H':=Aside0.mk H
            clear H
            have Ap : 0 ≤ (Al : Int):=of_decide_eq_true (by first|(with_reducible assumption)|assumption)
            have Aq : Al < (a0.size : Int):=of_decide_eq_true (by first|(with_reducible assumption)|assumption)
            have Az:=eG a0 Al
            replace Ap:=eq_true Ap
            replace Aq:=eq_true Aq
            go_wp2_with (first|((with_reducible refine bq (f:=63) rfl ?_);refine cO (some 24) rfl rfl Tryd.func63 (by kernel_rfl) rfl #[.int .u8 (bt a0 Al)] rfl (by (try simp only [List.map_toArray,List.map_cons,List.map_nil]);first|done|rfl|(simp only [List.length_drop,List.length_take];rfl)|(simp (disch:=first|omega|(simp at *;omega)) only [cZ,bS,dQ];rfl)) ?_;(with_reducible refine (eu.calls (bt a0 Al) false _ AX.out).mono ?_);rintro e w' ⟨rfl,⟨nd,rfl⟩⟩;refine ⟨_,rfl,?_⟩;have Au : 0 ≤ (Al : Int):=of_decide_eq_true (by first|(with_reducible assumption)|assumption);have Aw : Al < (a0.size : Int):=of_decide_eq_true (by first|(with_reducible assumption)|assumption);have AP:=eG a0 Al;replace Au:=eq_true Au;replace Aw:=eq_true Aw)|(go_at_call 65;(with_reducible refine (fV.calls (bt a0 Al) false _ Bj.out).mono ?_);rintro e w' ⟨rfl,⟨nd,rfl⟩⟩;have AJ : 0 ≤ (Al : Int):=of_decide_eq_true (by first|(with_reducible assumption)|assumption);have AL : Al < (a0.size : Int):=of_decide_eq_true (by first|(with_reducible assumption)|assumption);have Bf:=eG a0 Al;replace AJ:=eq_true AJ;replace AL:=eq_true AL)|(go_at_call 64;(with_reducible refine (dK.calls (bt a0 Al) true _ Bo.out).mono ?_);rintro e w' ⟨rfl,⟨nd,rfl⟩⟩))
            go_roundg k2
            case measure=>have:=AA.out;have:=AB.out;omega
            case rel=>exact ⟨(wrap64 (Al + 1)),(by first|rfl|(simp;done)|(simp [*];done)|exact congrArg Value.bool (dh _)|exact congrArg Value.bool (dh _).symm),H',⟨by have:=AA.out;have:=AB.out;omega⟩,by repeat (first|exact Drawn0.refl _|apply Drawn0.step)⟩
           ·replace c20:=Bool.eq_false_iff.mpr c20
            subst c20
            have H1 : (if (bt a0 Al) = 95 then (bf.l0 k2 a0 (a0.size : Int) (wrap64 (Al + 1))) else (some false)) = some r:=by rw [if_neg (show ¬ (false = true) by decide)] at H;exact H
            clear H
            have H:=H1
            clear H1
            by_cases AQ : (bt a0 Al) = 95
            ·rw [if_pos AQ] at H
             have c22b0 : ((bt a0 Al) == 95) = true:=beq_iff_eq.mpr AQ
             have c22b1 : ((bt a0 Al) != 95) = false:=bne_eq_false_iff_eq.mpr AQ
             clear AQ
             have H':=Aside0.mk H
             clear H
             have Ap : 0 ≤ (Al : Int):=of_decide_eq_true (by first|(with_reducible assumption)|assumption)
             have Aq : Al < (a0.size : Int):=of_decide_eq_true (by first|(with_reducible assumption)|assumption)
             have Az:=eG a0 Al
             replace Ap:=eq_true Ap
             replace Aq:=eq_true Aq
             go_wp2_with (first|((with_reducible refine bq (f:=63) rfl ?_);refine cO (some 24) rfl rfl Tryd.func63 (by kernel_rfl) rfl #[.int .u8 (bt a0 Al)] rfl (by (try simp only [List.map_toArray,List.map_cons,List.map_nil]);first|done|rfl|(simp only [List.length_drop,List.length_take];rfl)|(simp (disch:=first|omega|(simp at *;omega)) only [cZ,bS,dQ];rfl)) ?_;(with_reducible refine (eu.calls (bt a0 Al) false _ AX.out).mono ?_);rintro e w' ⟨rfl,⟨nd,rfl⟩⟩;refine ⟨_,rfl,?_⟩;have Au : 0 ≤ (Al : Int):=of_decide_eq_true (by first|(with_reducible assumption)|assumption);have Aw : Al < (a0.size : Int):=of_decide_eq_true (by first|(with_reducible assumption)|assumption);have AP:=eG a0 Al;replace Au:=eq_true Au;replace Aw:=eq_true Aw)|(go_at_call 65;(with_reducible refine (fV.calls (bt a0 Al) false _ Bj.out).mono ?_);rintro e w' ⟨rfl,⟨nd,rfl⟩⟩;have AJ : 0 ≤ (Al : Int):=of_decide_eq_true (by first|(with_reducible assumption)|assumption);have AL : Al < (a0.size : Int):=of_decide_eq_true (by first|(with_reducible assumption)|assumption);have Bf:=eG a0 Al;replace AJ:=eq_true AJ;replace AL:=eq_true AL)|(go_at_call 64;(with_reducible refine (dK.calls (bt a0 Al) false _ Bo.out).mono ?_);rintro e w' ⟨rfl,⟨nd,rfl⟩⟩;have Bg : 0 ≤ (Al : Int):=of_decide_eq_true (by first|(with_reducible assumption)|assumption);have Bh : Al < (a0.size : Int):=of_decide_eq_true (by first|(with_reducible assumption)|assumption);have Bp:=eG a0 Al;replace Bg:=eq_true Bg;replace Bh:=eq_true Bh))
             go_roundg k2
             case measure=>have:=AA.out;have:=AB.out;omega
             case rel=>exact ⟨(wrap64 (Al + 1)),(by first|rfl|(simp;done)|(simp [*];done)|exact congrArg Value.bool (dh _)|exact congrArg Value.bool (dh _).symm),H',⟨by have:=AA.out;have:=AB.out;omega⟩,by repeat (first|exact Drawn0.refl _|apply Drawn0.step)⟩
            ·rw [if_neg AQ] at H
             have c22b0 : ((bt a0 Al) == 95) = false:=beq_eq_false_iff_ne.mpr AQ
             have c22b1 : ((bt a0 Al) != 95) = true:=bne_iff_ne.mpr AQ
             obtain rfl:=Option.some.inj H
             have Ap : 0 ≤ (Al : Int):=of_decide_eq_true (by first|(with_reducible assumption)|assumption)
             have Aq : Al < (a0.size : Int):=of_decide_eq_true (by first|(with_reducible assumption)|assumption)
             have Az:=eG a0 Al
             replace Ap:=eq_true Ap
             replace Aq:=eq_true Aq
             go_wp2_with (first|((with_reducible refine bq (f:=63) rfl ?_);refine cO (some 24) rfl rfl Tryd.func63 (by kernel_rfl) rfl #[.int .u8 (bt a0 Al)] rfl (by (try simp only [List.map_toArray,List.map_cons,List.map_nil]);first|done|rfl|(simp only [List.length_drop,List.length_take];rfl)|(simp (disch:=first|omega|(simp at *;omega)) only [cZ,bS,dQ];rfl)) ?_;(with_reducible refine (eu.calls (bt a0 Al) false _ AX.out).mono ?_);rintro e w' ⟨rfl,⟨nd,rfl⟩⟩;refine ⟨_,rfl,?_⟩;have Au : 0 ≤ (Al : Int):=of_decide_eq_true (by first|(with_reducible assumption)|assumption);have Aw : Al < (a0.size : Int):=of_decide_eq_true (by first|(with_reducible assumption)|assumption);have AP:=eG a0 Al;replace Au:=eq_true Au;replace Aw:=eq_true Aw)|(go_at_call 65;(with_reducible refine (fV.calls (bt a0 Al) false _ Bj.out).mono ?_);rintro e w' ⟨rfl,⟨nd,rfl⟩⟩;have AJ : 0 ≤ (Al : Int):=of_decide_eq_true (by first|(with_reducible assumption)|assumption);have AL : Al < (a0.size : Int):=of_decide_eq_true (by first|(with_reducible assumption)|assumption);have Bf:=eG a0 Al;replace AJ:=eq_true AJ;replace AL:=eq_true AL)|(go_at_call 64;(with_reducible refine (dK.calls (bt a0 Al) false _ Bo.out).mono ?_);rintro e w' ⟨rfl,⟨nd,rfl⟩⟩;have Bg : 0 ≤ (Al : Int):=of_decide_eq_true (by first|(with_reducible assumption)|assumption);have Bh : Al < (a0.size : Int):=of_decide_eq_true (by first|(with_reducible assumption)|assumption);have Bp:=eG a0 Al;replace Bg:=eq_true Bg;replace Bh:=eq_true Bh))
             go_ret
             exact ⟨by first|rfl|(simp;done)|(simp [*];done),by repeat (first|exact Drawn0.refl _|apply Drawn0.step)⟩
        ·rw [if_neg c11] at H
         exact absurd H (by simp)
       ·rw [if_neg c10] at H
        exact absurd H (by simp)
      ·rw [if_neg c9] at H
       have c9b0 : decide (Al < (a0.size : Int)) = false:=decide_eq_false c9
       clear c9
       obtain rfl:=Option.some.inj H
       go_wp2
       go_ret
       exact ⟨by first|rfl|(simp;done)|(simp [*];done),by repeat (first|exact Drawn0.refl _|apply Drawn0.step)⟩
end Go.Proofs.YtpflenjhmeaeoaaDoor.GUt
