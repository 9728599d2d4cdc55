/- Written by this session's own program (wip/gen.py) out of the translation: plain Lean functions of the Go functions, and proofs that the calls come to their answers. No conditions beside those in the statements. -/
import Derived.Test.YtnkkbiabloodaaaDoorGVax0
namespace Go.Proofs.YtnkkbiabloodaaaDoor.GVa
open Go.RowKit Go.Proofs.YtnkkbiabloodaaaDoorW.PrintWords Go.Proofs.YtnkkbiabloodaaaDoorW.PrintLast Go.Proofs.YtnkkbiabloodaaaDoorW.PrintMore
attribute [local go_sem] eG eH fK fM dZ d9 eO eP
set_option linter.unusedVariables false
set_option linter.unusedSimpArgs false
mutual
def aK.l0 : Nat → ByteArray → Int → Option (Bool)
 | 0,_,_=>none
 | k + 1,x0,x3=>if x3 < (x0.size : Int) then (if 0 ≤ x3 then (if (bt x0 x3) < 128 then (aK.j4 k x0 x3 128 191 0) else (if (bt x0 x3) ≥ 194 then (aK.j1 k x0 x3 (bt x0 x3) 128 191 (decide ((bt x0 x3) ≤ 223))) else (aK.j1 k x0 x3 (bt x0 x3) 128 191 false))) else (none)) else (some true)
def aK.j4 : Nat → ByteArray → Int → Int → Int → Int → Option (Bool)
 | 0,_,_,_,_,_=>none
 | k + 1,x0,x3,x5,x6,x7=>aK.l1 k x0 x3 x5 x6 x7 1
def aK.l1 : Nat → ByteArray → Int → Int → Int → Int → Int → Option (Bool)
 | 0,_,_,_,_,_,_=>none
 | k + 1,x0,x3,x5,x6,x7,x8=>if x8 ≤ x7 then (if (wrap64 (x3 + x8)) ≥ (x0.size : Int) then (some false) else (if 0 ≤ (wrap64 (x3 + x8)) then (if (wrap64 (x3 + x8)) < (x0.size : Int) then (if (bt x0 (wrap64 (x3 + x8))) < x5 then (some false) else (if (bt x0 (wrap64 (x3 + x8))) > x6 then (some false) else (aK.l1 k x0 x3 128 191 x7 (wrap64 (x8 + 1))))) else (none)) else (none))) else (aK.l0 k x0 (wrap64 ((wrap64 (x3 + 1)) + x7)))
def aK.j1 : Nat → ByteArray → Int → Int → Int → Int → Bool → Option (Bool)
 | 0,_,_,_,_,_,_=>none
 | k + 1,x0,x3,x4,x5,x6,yT=>if yT = true then (aK.j4 k x0 x3 x5 x6 1) else (if x4 ≥ 224 then (aK.j2 k x0 x3 x4 x5 x6 (decide (x4 ≤ 239))) else (aK.j2 k x0 x3 x4 x5 x6 false))
def aK.j2 : Nat → ByteArray → Int → Int → Int → Int → Bool → Option (Bool)
 | 0,_,_,_,_,_,_=>none
 | k + 1,x0,x3,x4,x5,x6,yU=>if yU = true then (if x4 = 224 then (if x4 = 237 then (aK.j4 k x0 x3 160 159 2) else (aK.j4 k x0 x3 160 x6 2)) else (if x4 = 237 then (aK.j4 k x0 x3 x5 159 2) else (aK.j4 k x0 x3 x5 x6 2))) else (if x4 ≥ 240 then (aK.j3 k x0 x3 x4 x5 x6 (decide (x4 ≤ 244))) else (aK.j3 k x0 x3 x4 x5 x6 false))
def aK.j3 : Nat → ByteArray → Int → Int → Int → Int → Bool → Option (Bool)
 | 0,_,_,_,_,_,_=>none
 | k + 1,x0,x3,x4,x5,x6,yV=>if yV = true then (if x4 = 240 then (if x4 = 244 then (aK.j4 k x0 x3 144 143 3) else (aK.j4 k x0 x3 144 x6 3)) else (if x4 = 244 then (aK.j4 k x0 x3 x5 143 3) else (aK.j4 k x0 x3 x5 x6 3))) else (some false)
end
def aK.f (k : Nat) (a0 : ByteArray) : Option (Bool):=aK.l0 k a0 0
theorem aK.eu : ∀ k,(∀ y0 y1,LeO (aK.l0 k y0 y1) (aK.l0 (k + 1) y0 y1)) ∧ (∀ y0 y1 y2 y3 y4,LeO (aK.j4 k y0 y1 y2 y3 y4) (aK.j4 (k + 1) y0 y1 y2 y3 y4)) ∧ (∀ y0 y1 y2 y3 y4 y5,LeO (aK.l1 k y0 y1 y2 y3 y4 y5) (aK.l1 (k + 1) y0 y1 y2 y3 y4 y5)) ∧ (∀ y0 y1 y2 y3 y4 y5,LeO (aK.j1 k y0 y1 y2 y3 y4 y5) (aK.j1 (k + 1) y0 y1 y2 y3 y4 y5)) ∧ (∀ y0 y1 y2 y3 y4 y5,LeO (aK.j2 k y0 y1 y2 y3 y4 y5) (aK.j2 (k + 1) y0 y1 y2 y3 y4 y5)) ∧ (∀ y0 y1 y2 y3 y4 y5,LeO (aK.j3 k y0 y1 y2 y3 y4 y5) (aK.j3 (k + 1) y0 y1 y2 y3 y4 y5))
 | 0=>⟨fun _ _ r h=>by simp [aK.l0] at h,fun _ _ _ _ _ r h=>by simp [aK.j4] at h,fun _ _ _ _ _ _ r h=>by simp [aK.l1] at h,fun _ _ _ _ _ _ r h=>by simp [aK.j1] at h,fun _ _ _ _ _ _ r h=>by simp [aK.j2] at h,fun _ _ _ _ _ _ r h=>by simp [aK.j3] at h⟩
 | k + 1=>by
  obtain ⟨yc,ih1,ih2,ih3,ih4,ih5⟩:=aK.eu k
  refine ⟨?_,?_,?_,?_,?_,?_⟩
  ·intro y0 y1
   unfold aK.l0
   repeat' first
   | (with_reducible exact yc _ _)
   | (with_reducible exact ih1 _ _ _ _ _)
   | (with_reducible exact ih2 _ _ _ _ _ _)
   | (with_reducible exact ih3 _ _ _ _ _ _)
   | (with_reducible exact ih4 _ _ _ _ _ _)
   | (with_reducible exact ih5 _ _ _ _ _ _)
   | (with_reducible exact LeO.refl _)
   | (with_reducible exact LeO.none _)
   | (with_reducible refine LeO.ite ?_ ?_)
   | (with_reducible refine LeO.bind ?_ (fun _=>?_))
   | exact yc _ _
   | exact ih1 _ _ _ _ _
   | exact ih2 _ _ _ _ _ _
   | exact ih3 _ _ _ _ _ _
   | exact ih4 _ _ _ _ _ _
   | exact ih5 _ _ _ _ _ _
   | exact LeO.none _
   | refine LeO.ite ?_ ?_
   | refine LeO.bind ?_ (fun _=>?_)
  ·intro y0 y1 y2 y3 y4
   unfold aK.j4
   repeat' first
   | (with_reducible exact yc _ _)
   | (with_reducible exact ih1 _ _ _ _ _)
   | (with_reducible exact ih2 _ _ _ _ _ _)
   | (with_reducible exact ih3 _ _ _ _ _ _)
   | (with_reducible exact ih4 _ _ _ _ _ _)
   | (with_reducible exact ih5 _ _ _ _ _ _)
   | (with_reducible exact LeO.refl _)
   | (with_reducible exact LeO.none _)
   | (with_reducible refine LeO.ite ?_ ?_)
   | (with_reducible refine LeO.bind ?_ (fun _=>?_))
   | exact yc _ _
   | exact ih1 _ _ _ _ _
   | exact ih2 _ _ _ _ _ _
   | exact ih3 _ _ _ _ _ _
   | exact ih4 _ _ _ _ _ _
   | exact ih5 _ _ _ _ _ _
   | exact LeO.none _
   | refine LeO.ite ?_ ?_
   | refine LeO.bind ?_ (fun _=>?_)
  ·intro y0 y1 y2 y3 y4 y5
   unfold aK.l1
   repeat' first
   | (with_reducible exact yc _ _)
   | (with_reducible exact ih1 _ _ _ _ _)
   | (with_reducible exact ih2 _ _ _ _ _ _)
   | (with_reducible exact ih3 _ _ _ _ _ _)
   | (with_reducible exact ih4 _ _ _ _ _ _)
   | (with_reducible exact ih5 _ _ _ _ _ _)
   | (with_reducible exact LeO.refl _)
   | (with_reducible exact LeO.none _)
   | (with_reducible refine LeO.ite ?_ ?_)
   | (with_reducible refine LeO.bind ?_ (fun _=>?_))
   | exact yc _ _
   | exact ih1 _ _ _ _ _
   | exact ih2 _ _ _ _ _ _
   | exact ih3 _ _ _ _ _ _
   | exact ih4 _ _ _ _ _ _
   | exact ih5 _ _ _ _ _ _
   | exact LeO.none _
   | refine LeO.ite ?_ ?_
   | refine LeO.bind ?_ (fun _=>?_)
  ·intro y0 y1 y2 y3 y4 y5
   unfold aK.j1
   repeat' first
   | (with_reducible exact yc _ _)
   | (with_reducible exact ih1 _ _ _ _ _)
   | (with_reducible exact ih2 _ _ _ _ _ _)
   | (with_reducible exact ih3 _ _ _ _ _ _)
   | (with_reducible exact ih4 _ _ _ _ _ _)
   | (with_reducible exact ih5 _ _ _ _ _ _)
   | (with_reducible exact LeO.refl _)
   | (with_reducible exact LeO.none _)
   | (with_reducible refine LeO.ite ?_ ?_)
   | (with_reducible refine LeO.bind ?_ (fun _=>?_))
   | exact yc _ _
   | exact ih1 _ _ _ _ _
   | exact ih2 _ _ _ _ _ _
   | exact ih3 _ _ _ _ _ _
   | exact ih4 _ _ _ _ _ _
   | exact ih5 _ _ _ _ _ _
   | exact LeO.none _
   | refine LeO.ite ?_ ?_
   | refine LeO.bind ?_ (fun _=>?_)
  ·intro y0 y1 y2 y3 y4 y5
   unfold aK.j2
   repeat' first
   | (with_reducible exact yc _ _)
   | (with_reducible exact ih1 _ _ _ _ _)
   | (with_reducible exact ih2 _ _ _ _ _ _)
   | (with_reducible exact ih3 _ _ _ _ _ _)
   | (with_reducible exact ih4 _ _ _ _ _ _)
   | (with_reducible exact ih5 _ _ _ _ _ _)
   | (with_reducible exact LeO.refl _)
   | (with_reducible exact LeO.none _)
   | (with_reducible refine LeO.ite ?_ ?_)
   | (with_reducible refine LeO.bind ?_ (fun _=>?_))
   | exact yc _ _
   | exact ih1 _ _ _ _ _
   | exact ih2 _ _ _ _ _ _
   | exact ih3 _ _ _ _ _ _
   | exact ih4 _ _ _ _ _ _
   | exact ih5 _ _ _ _ _ _
   | exact LeO.none _
   | refine LeO.ite ?_ ?_
   | refine LeO.bind ?_ (fun _=>?_)
  ·intro y0 y1 y2 y3 y4 y5
   unfold aK.j3
   repeat' first
   | (with_reducible exact yc _ _)
   | (with_reducible exact ih1 _ _ _ _ _)
   | (with_reducible exact ih2 _ _ _ _ _ _)
   | (with_reducible exact ih3 _ _ _ _ _ _)
   | (with_reducible exact ih4 _ _ _ _ _ _)
   | (with_reducible exact ih5 _ _ _ _ _ _)
   | (with_reducible exact LeO.refl _)
   | (with_reducible exact LeO.none _)
   | (with_reducible refine LeO.ite ?_ ?_)
   | (with_reducible refine LeO.bind ?_ (fun _=>?_))
   | exact yc _ _
   | exact ih1 _ _ _ _ _
   | exact ih2 _ _ _ _ _ _
   | exact ih3 _ _ _ _ _ _
   | exact ih4 _ _ _ _ _ _
   | exact ih5 _ _ _ _ _ _
   | exact LeO.none _
   | refine LeO.ite ?_ ?_
   | refine LeO.bind ?_ (fun _=>?_)
theorem aK.mono : ∀ a0 k,LeO (aK.f k a0) (aK.f (k + 1) a0):=by
 intro a0 k
 obtain ⟨yc,ih1,ih2,ih3,ih4,ih5⟩:=aK.eu k
 unfold aK.f
 repeat' first
   | (with_reducible exact yc _ _)
   | (with_reducible exact ih1 _ _ _ _ _)
   | (with_reducible exact ih2 _ _ _ _ _ _)
   | (with_reducible exact ih3 _ _ _ _ _ _)
   | (with_reducible exact ih4 _ _ _ _ _ _)
   | (with_reducible exact ih5 _ _ _ _ _ _)
   | (with_reducible exact LeO.refl _)
   | (with_reducible exact LeO.none _)
   | (with_reducible refine LeO.ite ?_ ?_)
   | (with_reducible refine LeO.bind ?_ (fun _=>?_))
   | exact yc _ _
   | exact ih1 _ _ _ _ _
   | exact ih2 _ _ _ _ _ _
   | exact ih3 _ _ _ _ _ _
   | exact ih4 _ _ _ _ _ _
   | exact ih5 _ _ _ _ _ _
   | exact LeO.none _
   | refine LeO.ite ?_ ?_
   | refine LeO.bind ?_ (fun _=>?_)
set_option maxHeartbeats 8000000 in
set_option maxRecDepth 100000 in
theorem aK.calls (k : Nat) (a0 : ByteArray) (r : Bool) (w : World) (h : aK.f k a0 = some r) :
  Calls Tryd.prog 55 #[.string a0] w fun e w'=>e = .returned (.bool r) ∧ Drawn0 w w':=by
 have H : (aK.l0 k a0 0) = some r:=h
 clear h
 have H':=Aside0.mk H
 clear H
 go_enter Tryd.func55,Tryd.ntmps55
 go_wp2
 go_loopg [3] k (fun kq v3 w'=>∃ (xS : Int),v3 = .int .i64 xS ∧ Aside0 (aK.l0 kq a0 xS = some r) ∧ Aside0 (kq ≤ k) ∧ Drawn0 w w')
 case atStart=>exact ⟨(0),(by first|rfl|(simp;done)|(simp [*];done)),H',⟨Nat.le_refl _⟩,by repeat (first|exact Drawn0.refl _|apply Drawn0.step)⟩
 case round =>
  clear H'
  obtain ⟨xS,rfl,HA,xW,⟨m1,rfl⟩⟩:=hrel
  cases gk with
  | zero=>exact absurd HA.out (by simp [aK.l0])
  | succ k1 =>
   have H:=HA.out
   clear HA
   simp only [aK.l0] at H
   by_cases c2 : xS < (a0.size : Int)
   ·rw [if_pos c2] at H
    have c2b0 : decide (xS < (a0.size : Int)) = true:=decide_eq_true c2
    clear c2
    by_cases c3 : 0 ≤ xS
    ·rw [if_pos c3] at H
     have c3b0 : decide (0 ≤ xS) = true:=decide_eq_true c3
     clear c3
     have yP:=Aside0.mk H
     clear H
     have p4 : 0 ≤ (xS : Int):=of_decide_eq_true (by first|(with_reducible assumption)|assumption)
     have q4 : xS < (a0.size : Int):=of_decide_eq_true (by first|(with_reducible assumption)|assumption)
     have hx4:=mO a0 xS
     replace p4:=eq_true p4
     replace q4:=eq_true q4
     go_upto_block 2 with (fail)
     go_cut [5,6,7] (fun v5 v6 v7 wc=>∃ (kq : Nat) (yx : Int) (yA : Int) (xY : Int),v5 = .int .u8 yx ∧ v6 = .int .u8 yA ∧ v7 = .int .i64 xY ∧ Aside0 (aK.j4 kq a0 xS yx yA xY = some r) ∧ Aside0 (kq ≤ k1) ∧ Drawn0 w wc)
     case first =>
      have H:=yP.out
      clear yP
      by_cases c6 : (bt a0 xS) < 128
      ·rw [if_pos c6] at H
       have c6b0 : decide ((bt a0 xS) < 128) = true:=decide_eq_true c6
       clear c6
       (first|rw [c6b0]|(simp only [bA,bB];rw [c6b0])|skip)
       have H':=Aside0.mk H
       clear H
       go_wp2
       go_meet
       case rel=>exact ⟨_,(128),(191),(0),(by first|rfl|(simp;done)|(simp [*];done)),(by first|rfl|(simp;done)|(simp [*];done)),(by first|rfl|(simp;done)|(simp [*];done)),H',⟨by have:=xW.out;first|omega|exact Nat.le_refl _⟩,by repeat (first|exact Drawn0.refl _|apply Drawn0.step)⟩
      ·rw [if_neg c6] at H
       have c6b0 : decide ((bt a0 xS) < 128) = false:=decide_eq_false c6
       clear c6
       (first|rw [c6b0]|(simp only [bA,bB];rw [c6b0])|skip)
       have yQ:=Aside0.mk H
       clear H
       go_upto_region 7 with (fail)
       go_cut [19] (fun v19 wc=>∃ (kq : Nat) (yj : Bool),v19 = .bool yj ∧ Aside0 (aK.j1 kq a0 xS (bt a0 xS) 128 191 yj = some r) ∧ Aside0 (kq ≤ k1) ∧ Drawn0 w wc)
       case first =>
        have H:=yQ.out
        clear yQ
        by_cases c8 : (bt a0 xS) ≥ 194
        ·rw [if_pos c8] at H
         have c8b0 : decide (194 ≤ (bt a0 xS)) = true:=decide_eq_true c8
         clear c8
         (first|rw [c8b0]|(simp only [bA,bB];rw [c8b0])|skip)
         have H':=Aside0.mk H
         clear H
         go_wp2
         go_meet
         case rel=>exact ⟨_,(decide ((bt a0 xS) ≤ 223)),(by first|rfl|(simp;done)|(simp [*];done)),H',⟨by have:=xW.out;first|omega|exact Nat.le_refl _⟩,by repeat (first|exact Drawn0.refl _|apply Drawn0.step)⟩
        ·rw [if_neg c8] at H
         have c8b0 : decide (194 ≤ (bt a0 xS)) = false:=decide_eq_false c8
         clear c8
         (first|rw [c8b0]|(simp only [bA,bB];rw [c8b0])|skip)
         have H':=Aside0.mk H
         clear H
         go_wp2
         go_meet
         case rel=>exact ⟨_,(false),(by first|rfl|(simp;done)|(simp [*];done)),H',⟨by have:=xW.out;first|omega|exact Nat.le_refl _⟩,by repeat (first|exact Drawn0.refl _|apply Drawn0.step)⟩
       case rest =>
        clear yQ
        try clear c2
        try clear c2b0
        try clear p2
        try clear c3
        try clear c3b0
        try clear p4
        try clear q4
        try clear hx4
        try clear c5
        try clear c6
        try clear c6b0
        try clear c8
        try clear c8b0
        try clear p4
        try clear q4
        obtain ⟨kq,yj,rfl,HA,yu,⟨yY,rfl⟩⟩:=hcut
        cases kq with
        | zero=>exact absurd HA.out (by simp [aK.j1])
        | succ yK =>
         have H:=HA.out
         clear HA
         simp only [aK.j1] at H
         by_cases c9 : yj = true
         ·subst c9
          have H1 : (aK.j4 yK a0 xS 128 191 1) = some r:=by rw [if_pos rfl] at H;exact H
          clear H
          have H:=H1
          clear H1
          have H':=Aside0.mk H
          clear H
          go_wp2
          go_meet
          case rel=>exact ⟨_,(128),(191),(1),(by first|rfl|(simp;done)|(simp [*];done)),(by first|rfl|(simp;done)|(simp [*];done)),(by first|rfl|(simp;done)|(simp [*];done)),H',⟨by have:=xW.out;have:=yu.out;first|omega|exact Nat.le_refl _⟩,by repeat (first|exact Drawn0.refl _|apply Drawn0.step)⟩
         ·replace c9:=Bool.eq_false_iff.mpr c9
          subst c9
          have H1 : (if (bt a0 xS) ≥ 224 then (aK.j2 yK a0 xS (bt a0 xS) 128 191 (decide ((bt a0 xS) ≤ 239))) else (aK.j2 yK a0 xS (bt a0 xS) 128 191 false)) = some r:=by rw [if_neg (show ¬ (false = true) by decide)] at H;exact H
          clear H
          have H:=H1
          clear H1
          have yE:=Aside0.mk H
          clear H
          go_upto_region 9 with (fail)
          go_cut [26] (fun v26 wc=>∃ (kq : Nat) (yt : Bool),v26 = .bool yt ∧ Aside0 (aK.j2 kq a0 xS (bt a0 xS) 128 191 yt = some r) ∧ Aside0 (kq ≤ yK) ∧ Drawn0 w wc)
          case first =>
           have H:=yE.out
           clear yE
           by_cases c11 : (bt a0 xS) ≥ 224
           ·rw [if_pos c11] at H
            have c11b0 : decide (224 ≤ (bt a0 xS)) = true:=decide_eq_true c11
            clear c11
            (first|rw [c11b0]|(simp only [bA,bB];rw [c11b0])|skip)
            have H':=Aside0.mk H
            clear H
            go_wp2
            go_meet
            case rel=>exact ⟨_,(decide ((bt a0 xS) ≤ 239)),(by first|rfl|(simp;done)|(simp [*];done)),H',⟨by have:=xW.out;have:=yu.out;first|omega|exact Nat.le_refl _⟩,by repeat (first|exact Drawn0.refl _|apply Drawn0.step)⟩
           ·rw [if_neg c11] at H
            have c11b0 : decide (224 ≤ (bt a0 xS)) = false:=decide_eq_false c11
            clear c11
            (first|rw [c11b0]|(simp only [bA,bB];rw [c11b0])|skip)
            have H':=Aside0.mk H
            clear H
            go_wp2
            go_meet
            case rel=>exact ⟨_,(false),(by first|rfl|(simp;done)|(simp [*];done)),H',⟨by have:=xW.out;have:=yu.out;first|omega|exact Nat.le_refl _⟩,by repeat (first|exact Drawn0.refl _|apply Drawn0.step)⟩
          case rest =>
           clear yE
           try clear c1
           try clear c2
           try clear c2b0
           try clear p2
           try clear c3
           try clear c3b0
           try clear p4
           try clear q4
           try clear hx4
           try clear c5
           try clear c6
           try clear c6b0
           try clear c8
           try clear c8b0
           try clear c9
           try clear c11
           try clear c11b0
           try clear p2
           try clear p4
           try clear q4
           obtain ⟨kq,yt,rfl,HA,yw,⟨yZ,rfl⟩⟩:=hcut
           cases kq with
           | zero=>exact absurd HA.out (by simp [aK.j2])
           | succ yF =>
            have H:=HA.out
            clear HA
            simp only [aK.j2] at H
            by_cases c12 : yt = true
            ·subst c12
             have H1 : (if (bt a0 xS) = 224 then (if (bt a0 xS) = 237 then (aK.j4 yF a0 xS 160 159 2) else (aK.j4 yF a0 xS 160 191 2)) else (if (bt a0 xS) = 237 then (aK.j4 yF a0 xS 128 159 2) else (aK.j4 yF a0 xS 128 191 2))) = some r:=by rw [if_pos rfl] at H;exact H
             clear H
             have H:=H1
             clear H1
             by_cases c13 : (bt a0 xS) = 224
             ·rw [if_pos c13] at H
              have c13b0 : ((bt a0 xS) == 224) = true:=beq_iff_eq.mpr c13
              have c13b1 : ((bt a0 xS) != 224) = false:=bne_eq_false_iff_eq.mpr c13
              clear c13
              by_cases c14 : (bt a0 xS) = 237
              ·rw [if_pos c14] at H
               have c14b0 : ((bt a0 xS) == 237) = true:=beq_iff_eq.mpr c14
               have c14b1 : ((bt a0 xS) != 237) = false:=bne_eq_false_iff_eq.mpr c14
               clear c14
               have H':=Aside0.mk H
               clear H
               go_wp2
               go_meet
               case rel=>exact ⟨_,(160),(159),(2),(by first|rfl|(simp;done)|(simp [*];done)),(by first|rfl|(simp;done)|(simp [*];done)),(by first|rfl|(simp;done)|(simp [*];done)),H',⟨by have:=xW.out;have:=yu.out;have:=yw.out;first|omega|exact Nat.le_refl _⟩,by repeat (first|exact Drawn0.refl _|apply Drawn0.step)⟩
              ·rw [if_neg c14] at H
               have c14b0 : ((bt a0 xS) == 237) = false:=beq_eq_false_iff_ne.mpr c14
               have c14b1 : ((bt a0 xS) != 237) = true:=bne_iff_ne.mpr c14
               have H':=Aside0.mk H
               clear H
               go_wp2
               go_meet
               case rel=>exact ⟨_,(160),(191),(2),(by first|rfl|(simp;done)|(simp [*];done)),(by first|rfl|(simp;done)|(simp [*];done)),(by first|rfl|(simp;done)|(simp [*];done)),H',⟨by have:=xW.out;have:=yu.out;have:=yw.out;first|omega|exact Nat.le_refl _⟩,by repeat (first|exact Drawn0.refl _|apply Drawn0.step)⟩
             ·rw [if_neg c13] at H
              have c13b0 : ((bt a0 xS) == 224) = false:=beq_eq_false_iff_ne.mpr c13
              have c13b1 : ((bt a0 xS) != 224) = true:=bne_iff_ne.mpr c13
              by_cases c15 : (bt a0 xS) = 237
              ·rw [if_pos c15] at H
               have c15b0 : ((bt a0 xS) == 237) = true:=beq_iff_eq.mpr c15
               have c15b1 : ((bt a0 xS) != 237) = false:=bne_eq_false_iff_eq.mpr c15
               clear c15
               have H':=Aside0.mk H
               clear H
               go_wp2
               go_meet
               case rel=>exact ⟨_,(128),(159),(2),(by first|rfl|(simp;done)|(simp [*];done)),(by first|rfl|(simp;done)|(simp [*];done)),(by first|rfl|(simp;done)|(simp [*];done)),H',⟨by have:=xW.out;have:=yu.out;have:=yw.out;first|omega|exact Nat.le_refl _⟩,by repeat (first|exact Drawn0.refl _|apply Drawn0.step)⟩
              ·rw [if_neg c15] at H
               have c15b0 : ((bt a0 xS) == 237) = false:=beq_eq_false_iff_ne.mpr c15
               have c15b1 : ((bt a0 xS) != 237) = true:=bne_iff_ne.mpr c15
               have H':=Aside0.mk H
               clear H
               go_wp2
               go_meet
               case rel=>exact ⟨_,(128),(191),(2),(by first|rfl|(simp;done)|(simp [*];done)),(by first|rfl|(simp;done)|(simp [*];done)),(by first|rfl|(simp;done)|(simp [*];done)),H',⟨by have:=xW.out;have:=yu.out;have:=yw.out;first|omega|exact Nat.le_refl _⟩,by repeat (first|exact Drawn0.refl _|apply Drawn0.step)⟩
            ·replace c12:=Bool.eq_false_iff.mpr c12
             subst c12
             have H1 : (if (bt a0 xS) ≥ 240 then (aK.j3 yF a0 xS (bt a0 xS) 128 191 (decide ((bt a0 xS) ≤ 244))) else (aK.j3 yF a0 xS (bt a0 xS) 128 191 false)) = some r:=by rw [if_neg (show ¬ (false = true) by decide)] at H;exact H
             clear H
             have H:=H1
             clear H1
             have yG:=Aside0.mk H
             clear H
             go_upto_region 15 with (fail)
             go_cut [37] (fun v37 wc=>∃ (kq : Nat) (xZ : Bool),v37 = .bool xZ ∧ Aside0 (aK.j3 kq a0 xS (bt a0 xS) 128 191 xZ = some r) ∧ Aside0 (kq ≤ yF) ∧ Drawn0 w wc)
             case first =>
              have H:=yG.out
              clear yG
              by_cases c17 : (bt a0 xS) ≥ 240
              ·rw [if_pos c17] at H
               have c17b0 : decide (240 ≤ (bt a0 xS)) = true:=decide_eq_true c17
               clear c17
               (first|rw [c17b0]|(simp only [bA,bB];rw [c17b0])|skip)
               have H':=Aside0.mk H
               clear H
               go_wp2
               go_meet
               case rel=>exact ⟨_,(decide ((bt a0 xS) ≤ 244)),(by first|rfl|(simp;done)|(simp [*];done)),H',⟨by have:=xW.out;have:=yu.out;have:=yw.out;first|omega|exact Nat.le_refl _⟩,by repeat (first|exact Drawn0.refl _|apply Drawn0.step)⟩
              ·rw [if_neg c17] at H
               have c17b0 : decide (240 ≤ (bt a0 xS)) = false:=decide_eq_false c17
               clear c17
               (first|rw [c17b0]|(simp only [bA,bB];rw [c17b0])|skip)
               have H':=Aside0.mk H
               clear H
               go_wp2
               go_meet
               case rel=>exact ⟨_,(false),(by first|rfl|(simp;done)|(simp [*];done)),H',⟨by have:=xW.out;have:=yu.out;have:=yw.out;first|omega|exact Nat.le_refl _⟩,by repeat (first|exact Drawn0.refl _|apply Drawn0.step)⟩
             case rest =>
              clear yG
              try clear c1
              try clear c2
              try clear c2b0
              try clear p2
              try clear c3
              try clear c3b0
              try clear p4
              try clear q4
              try clear hx4
              try clear c5
              try clear c6
              try clear c6b0
              try clear c8
              try clear c8b0
              try clear c9
              try clear c11
              try clear c11b0
              try clear c12
              try clear c13
              try clear c13b0
              try clear c13b1
              try clear c14
              try clear c14b0
              try clear c14b1
              try clear c15
              try clear c15b0
              try clear c15b1
              try clear c17
              try clear c17b0
              try clear p2
              try clear p4
              try clear q4
              obtain ⟨kq,xZ,rfl,HA,yB,⟨yX,rfl⟩⟩:=hcut
              cases kq with
              | zero=>exact absurd HA.out (by simp [aK.j3])
              | succ yC =>
               have H:=HA.out
               clear HA
               simp only [aK.j3] at H
               by_cases c18 : xZ = true
               ·subst c18
                have H1 : (if (bt a0 xS) = 240 then (if (bt a0 xS) = 244 then (aK.j4 yC a0 xS 144 143 3) else (aK.j4 yC a0 xS 144 191 3)) else (if (bt a0 xS) = 244 then (aK.j4 yC a0 xS 128 143 3) else (aK.j4 yC a0 xS 128 191 3))) = some r:=by rw [if_pos rfl] at H;exact H
                clear H
                have H:=H1
                clear H1
                by_cases c19 : (bt a0 xS) = 240
                ·rw [if_pos c19] at H
                 have c19b0 : ((bt a0 xS) == 240) = true:=beq_iff_eq.mpr c19
                 have c19b1 : ((bt a0 xS) != 240) = false:=bne_eq_false_iff_eq.mpr c19
                 clear c19
                 by_cases c20 : (bt a0 xS) = 244
                 ·rw [if_pos c20] at H
                  have c20b0 : ((bt a0 xS) == 244) = true:=beq_iff_eq.mpr c20
                  have c20b1 : ((bt a0 xS) != 244) = false:=bne_eq_false_iff_eq.mpr c20
                  clear c20
                  have H':=Aside0.mk H
                  clear H
                  go_wp2
                  go_meet
                  case rel=>exact ⟨_,(144),(143),(3),(by first|rfl|(simp;done)|(simp [*];done)),(by first|rfl|(simp;done)|(simp [*];done)),(by first|rfl|(simp;done)|(simp [*];done)),H',⟨by have:=xW.out;have:=yu.out;have:=yw.out;have:=yB.out;first|omega|exact Nat.le_refl _⟩,by repeat (first|exact Drawn0.refl _|apply Drawn0.step)⟩
                 ·rw [if_neg c20] at H
                  have c20b0 : ((bt a0 xS) == 244) = false:=beq_eq_false_iff_ne.mpr c20
                  have c20b1 : ((bt a0 xS) != 244) = true:=bne_iff_ne.mpr c20
                  have H':=Aside0.mk H
                  clear H
                  go_wp2
                  go_meet
                  case rel=>exact ⟨_,(144),(191),(3),(by first|rfl|(simp;done)|(simp [*];done)),(by first|rfl|(simp;done)|(simp [*];done)),(by first|rfl|(simp;done)|(simp [*];done)),H',⟨by have:=xW.out;have:=yu.out;have:=yw.out;have:=yB.out;first|omega|exact Nat.le_refl _⟩,by repeat (first|exact Drawn0.refl _|apply Drawn0.step)⟩
                ·rw [if_neg c19] at H
                 have c19b0 : ((bt a0 xS) == 240) = false:=beq_eq_false_iff_ne.mpr c19
                 have c19b1 : ((bt a0 xS) != 240) = true:=bne_iff_ne.mpr c19
                 by_cases c21 : (bt a0 xS) = 244
                 ·rw [if_pos c21] at H
                  have c21b0 : ((bt a0 xS) == 244) = true:=beq_iff_eq.mpr c21
                  have c21b1 : ((bt a0 xS) != 244) = false:=bne_eq_false_iff_eq.mpr c21
                  clear c21
                  have H':=Aside0.mk H
                  clear H
                  go_wp2
                  go_meet
                  case rel=>exact ⟨_,(128),(143),(3),(by first|rfl|(simp;done)|(simp [*];done)),(by first|rfl|(simp;done)|(simp [*];done)),(by first|rfl|(simp;done)|(simp [*];done)),H',⟨by have:=xW.out;have:=yu.out;have:=yw.out;have:=yB.out;first|omega|exact Nat.le_refl _⟩,by repeat (first|exact Drawn0.refl _|apply Drawn0.step)⟩
                 ·rw [if_neg c21] at H
                  have c21b0 : ((bt a0 xS) == 244) = false:=beq_eq_false_iff_ne.mpr c21
                  have c21b1 : ((bt a0 xS) != 244) = true:=bne_iff_ne.mpr c21
                  have H':=Aside0.mk H
                  clear H
                  go_wp2
                  go_meet
                  case rel=>exact ⟨_,(128),(191),(3),(by first|rfl|(simp;done)|(simp [*];done)),(by first|rfl|(simp;done)|(simp [*];done)),(by first|rfl|(simp;done)|(simp [*];done)),H',⟨by have:=xW.out;have:=yu.out;have:=yw.out;have:=yB.out;first|omega|exact Nat.le_refl _⟩,by repeat (first|exact Drawn0.refl _|apply Drawn0.step)⟩
               ·replace c18:=Bool.eq_false_iff.mpr c18
                subst c18
                have H1 : (some false) = some r:=by rw [if_neg (show ¬ (false = true) by decide)] at H;exact H
                clear H
                have H:=H1
                clear H1
                obtain rfl:=Option.some.inj H
                go_wp2
                go_ret
                exact ⟨by first|rfl|(simp;done)|(simp [*];done),by repeat (first|exact Drawn0.refl _|apply Drawn0.step)⟩
     case rest =>
      clear yP
      try clear c1
      try clear c2
      try clear c2b0
      try clear p2
      try clear c3
      try clear c3b0
      try clear p4
      try clear q4
      try clear hx4
      try clear c5
      try clear c6
      try clear c6b0
      try clear c8
      try clear c8b0
      try clear c9
      try clear c11
      try clear c11b0
      try clear c12
      try clear c13
      try clear c13b0
      try clear c13b1
      try clear c14
      try clear c14b0
      try clear c14b1
      try clear c15
      try clear c15b0
      try clear c15b1
      try clear c17
      try clear c17b0
      try clear c18
      try clear c19
      try clear c19b0
      try clear c19b1
      try clear c20
      try clear c20b0
      try clear c20b1
      try clear c21
      try clear c21b0
      try clear c21b1
      try clear p2
      try clear p4
      try clear q4
      obtain ⟨kq,yx,yA,xY,rfl,rfl,rfl,HA,yL,⟨za,rfl⟩⟩:=hcut
      cases kq with
      | zero=>exact absurd HA.out (by simp [aK.j4])
      | succ yR =>
       have H:=HA.out
       clear HA
       simp only [aK.j4] at H
       have H':=Aside0.mk H
       clear H
       go_wp2
       go_loopg [5,6,8] yR (fun kq v5 v6 v8 w'=>∃ (yg : Int) (yh : Int) (xV : Int),v5 = .int .u8 yg ∧ v6 = .int .u8 yh ∧ v8 = .int .i64 xV ∧ Aside0 (aK.l1 kq a0 xS yg yh xY xV = some r) ∧ Aside0 (kq ≤ yR) ∧ Drawn0 w w')
       case atStart=>exact ⟨(yx),(yA),(1),(by first|rfl|(simp;done)|(simp [*];done)),(by first|rfl|(simp;done)|(simp [*];done)),(by first|rfl|(simp;done)|(simp [*];done)),H',⟨Nat.le_refl _⟩,by repeat (first|exact Drawn0.refl _|apply Drawn0.step)⟩
       case round =>
        clear H'
        try clear c1
        try clear c2
        try clear c2b0
        try clear p2
        try clear c3
        try clear c3b0
        try clear c4
        try clear p4
        try clear q4
        try clear hx4
        try clear c5
        try clear c6
        try clear c6b0
        try clear c8
        try clear c8b0
        try clear c9
        try clear c11
        try clear c11b0
        try clear c12
        try clear c13
        try clear c13b0
        try clear c13b1
        try clear c14
        try clear c14b0
        try clear c14b1
        try clear c15
        try clear c15b0
        try clear c15b1
        try clear c17
        try clear c17b0
        try clear c18
        try clear c19
        try clear c19b0
        try clear c19b1
        try clear c20
        try clear c20b0
        try clear c20b1
        try clear c21
        try clear c21b0
        try clear c21b1
        try clear p2
        try clear p4
        try clear q4
        obtain ⟨yg,yh,xV,rfl,rfl,rfl,HA,yM,⟨m3,rfl⟩⟩:=hrel
        cases gk with
        | zero=>exact absurd HA.out (by simp [aK.l1])
        | succ k3 =>
         have H:=HA.out
         clear HA
         simp only [aK.l1] at H
         by_cases yH : xV ≤ xY
         ·rw [if_pos yH] at H
          have c22b0 : decide (xV ≤ xY) = true:=decide_eq_true yH
          clear yH
          by_cases c23 : (wrap64 (xS + xV)) ≥ (a0.size : Int)
          ·rw [if_pos c23] at H
           have c23b0 : decide ((a0.size : Int) ≤ (wrap64 (xS + xV))) = true:=decide_eq_true c23
           clear c23
           obtain rfl:=Option.some.inj H
           go_wp2
           go_ret
           exact ⟨by first|rfl|(simp;done)|(simp [*];done),by repeat (first|exact Drawn0.refl _|apply Drawn0.step)⟩
          ·rw [if_neg c23] at H
           have c23b0 : decide ((a0.size : Int) ≤ (wrap64 (xS + xV))) = false:=decide_eq_false c23
           clear c23
           obtain ⟨xU,xX⟩ : ∃ j_ : Int,(wrap64 (xS + xV)) = j_:=⟨_,rfl⟩
           replace H : (if 0 ≤ (xU) then (if (xU) < (a0.size : Int) then (if (bt a0 (xU)) < yg then (some false) else (if (bt a0 (xU)) > yh then (some false) else (aK.l1 k3 a0 xS 128 191 xY (wrap64 (xV + 1))))) else (none)) else (none)) = some r:=by first|(rw [xX] at H;exact H)|(simp only [xX] at H ⊢;exact H)
           (try rw [xX] at c23b0)
           have hji24w : (IntKind.i64.wrap (xS + xV)) = xU:=(bA _).trans xX
           by_cases yN : 0 ≤ (xU)
           ·rw [if_pos yN] at H
            have c25b0 : decide (0 ≤ (xU)) = true:=decide_eq_true yN
            clear yN
            by_cases yO : (xU) < (a0.size : Int)
            ·rw [if_pos yO] at H
             have c26b0 : decide ((xU) < (a0.size : Int)) = true:=decide_eq_true yO
             clear yO
             by_cases c28 : (bt a0 (xU)) < yg
             ·rw [if_pos c28] at H
              have c28b0 : decide ((bt a0 (xU)) < yg) = true:=decide_eq_true c28
              clear c28
              obtain rfl:=Option.some.inj H
              have p27 : 0 ≤ ((xU) : Int):=of_decide_eq_true (by first|(with_reducible assumption)|assumption)
              have yD : (xU) < (a0.size : Int):=of_decide_eq_true (by first|(with_reducible assumption)|assumption)
              have hx27:=mO a0 (xU)
              replace p27:=eq_true p27
              replace yD:=eq_true yD
              go_wp2
              go_ret
              exact ⟨by first|rfl|(simp;done)|(simp only [← xX] <;> (first|rfl|simp))|(simp [*];done),by repeat (first|exact Drawn0.refl _|apply Drawn0.step)⟩
             ·rw [if_neg c28] at H
              have c28b0 : decide ((bt a0 (xU)) < yg) = false:=decide_eq_false c28
              clear c28
              by_cases yI : (bt a0 (xU)) > yh
              ·rw [if_pos yI] at H
               have c30b0 : decide (yh < (bt a0 (xU))) = true:=decide_eq_true yI
               clear yI
               obtain rfl:=Option.some.inj H
               have p27 : 0 ≤ ((xU) : Int):=of_decide_eq_true (by first|(with_reducible assumption)|assumption)
               have yD : (xU) < (a0.size : Int):=of_decide_eq_true (by first|(with_reducible assumption)|assumption)
               have hx27:=mO a0 (xU)
               replace p27:=eq_true p27
               replace yD:=eq_true yD
               have p29 : 0 ≤ ((xU) : Int):=of_decide_eq_true (by first|(with_reducible assumption)|assumption)
               have yJ : (xU) < (a0.size : Int):=of_decide_eq_true (by first|(with_reducible assumption)|assumption)
               have hx29:=mO a0 (xU)
               replace p29:=eq_true p29
               replace yJ:=eq_true yJ
               go_wp2
               go_ret
               exact ⟨by first|rfl|(simp;done)|(simp only [← xX] <;> (first|rfl|simp))|(simp [*];done),by repeat (first|exact Drawn0.refl _|apply Drawn0.step)⟩
              ·rw [if_neg yI] at H
               have c30b0 : decide (yh < (bt a0 (xU))) = false:=decide_eq_false yI
               clear yI
               have H':=Aside0.mk H
               clear H
               have p27 : 0 ≤ ((xU) : Int):=of_decide_eq_true (by first|(with_reducible assumption)|assumption)
               have yD : (xU) < (a0.size : Int):=of_decide_eq_true (by first|(with_reducible assumption)|assumption)
               have hx27:=mO a0 (xU)
               replace p27:=eq_true p27
               replace yD:=eq_true yD
               have p29 : 0 ≤ ((xU) : Int):=of_decide_eq_true (by first|(with_reducible assumption)|assumption)
               have yJ : (xU) < (a0.size : Int):=of_decide_eq_true (by first|(with_reducible assumption)|assumption)
               have hx29:=mO a0 (xU)
               replace p29:=eq_true p29
               replace yJ:=eq_true yJ
               go_wp2
               go_roundg k3
               case measure=>have:=xW.out;have:=yL.out;have:=yM.out;omega
               case rel=>exact ⟨(128),(191),(wrap64 (xV + 1)),(by first|rfl|(simp;done)|(simp [*];done)),(by first|rfl|(simp;done)|(simp [*];done)),(by first|rfl|(simp;done)|(simp [*];done)),H',⟨by have:=xW.out;have:=yL.out;have:=yM.out;omega⟩,by repeat (first|exact Drawn0.refl _|apply Drawn0.step)⟩
            ·rw [if_neg yO] at H
             exact absurd H (by simp)
           ·rw [if_neg yN] at H
            exact absurd H (by simp)
         ·rw [if_neg yH] at H
          have c22b0 : decide (xV ≤ xY) = false:=decide_eq_false yH
          clear yH
          have H':=Aside0.mk H
          clear H
          go_wp2
          go_roundg k3
          case measure=>have:=xW.out;have:=yL.out;have:=yM.out;omega
          case rel=>exact ⟨(wrap64 ((wrap64 (xS + 1)) + xY)),(by first|rfl|(simp;done)|(simp [*];done)),H',⟨by have:=xW.out;have:=yL.out;have:=yM.out;omega⟩,by repeat (first|exact Drawn0.refl _|apply Drawn0.step)⟩
    ·rw [if_neg c3] at H
     exact absurd H (by simp)
   ·rw [if_neg c2] at H
    have c2b0 : decide (xS < (a0.size : Int)) = false:=decide_eq_false c2
    clear c2
    obtain rfl:=Option.some.inj H
    go_wp2
    go_ret
    exact ⟨by first|rfl|(simp;done)|(simp [*];done),by repeat (first|exact Drawn0.refl _|apply Drawn0.step)⟩
def bP.f (k : Nat) (a0 : ByteArray) : Option (Int):=(aK.f k a0).bind fun t206=>(if t206 = true then (if (a0.size : Int) > 4096 then (some 2) else (some 0)) else (some 10))
theorem bP.mono : ∀ a0 k,LeO (bP.f k a0) (bP.f (k + 1) a0):=by
 intro a0 k
 unfold bP.f
 repeat' first
   | (with_reducible exact aK.mono _ _)
   | (with_reducible exact LeO.refl _)
   | (with_reducible exact LeO.none _)
   | (with_reducible refine LeO.ite ?_ ?_)
   | (with_reducible refine LeO.bind ?_ (fun _=>?_))
   | exact aK.mono _ _
   | exact LeO.none _
   | refine LeO.ite ?_ ?_
   | refine LeO.bind ?_ (fun _=>?_)
set_option maxHeartbeats 8000000 in
set_option maxRecDepth 100000 in
theorem bP.calls (k : Nat) (a0 : ByteArray) (r : Int) (w : World) (h : bP.f k a0 = some r) :
  Calls Tryd.prog 49 #[.string a0] w fun e w'=>e = .returned (.int .i64 r) ∧ Drawn0 w w':=by
 have H : ((aK.f k a0).bind fun t206=>(if t206 = true then (if (a0.size : Int) > 4096 then (some 2) else (some 0)) else (some 10))) = some r:=h
 clear h
 replace H:=Option.bind_eq_some_iff.mp H
 obtain ⟨t206,yS,H⟩:=H
 replace H : (if t206 = true then (if (a0.size : Int) > 4096 then (some 2) else (some 0)) else (some 10)) = some r:=H
 have A2:=Aside0.mk yS
 clear yS
 by_cases c3 : t206 = true
 ·subst c3
  have H1 : (if (a0.size : Int) > 4096 then (some 2) else (some 0)) = some r:=by rw [if_pos rfl] at H;exact H
  clear H
  have H:=H1
  clear H1
  by_cases c4 : (a0.size : Int) > 4096
  ·rw [if_pos c4] at H
   have c4b0 : decide (4096 < (a0.size : Int)) = true:=decide_eq_true c4
   have c4b1 : decide (4096 < a0.size) = true:=decide_eq_true (by omega)
   clear c4
   obtain rfl:=Option.some.inj H
   go_enter Tryd.func49,Tryd.ntmps49
   go_wp2_with (first|((with_reducible refine bW (f:=55) rfl ?_);refine dJ (some 4) rfl rfl Tryd.func55 (by kernel_rfl) rfl #[.string a0] rfl (by (try simp only [List.map_toArray,List.map_cons,List.map_nil]);first|done|rfl|(simp only [List.length_drop,List.length_take];rfl)|(simp (disch:=first|omega|(simp at *;omega)) only [dF,dA,dV];rfl)) ?_;(with_reducible refine (aK.calls k a0 true _ A2.out).mono ?_);rintro e w' ⟨rfl,⟨nd,rfl⟩⟩;refine ⟨_,rfl,?_⟩))
   go_ret
   exact ⟨by first|rfl|(simp;done)|(simp [*];done),by repeat (first|exact Drawn0.refl _|apply Drawn0.step)⟩
  ·rw [if_neg c4] at H
   have c4b0 : decide (4096 < (a0.size : Int)) = false:=decide_eq_false c4
   have c4b1 : decide (4096 < a0.size) = false:=decide_eq_false (by omega)
   clear c4
   obtain rfl:=Option.some.inj H
   go_enter Tryd.func49,Tryd.ntmps49
   go_wp2_with (first|((with_reducible refine bW (f:=55) rfl ?_);refine dJ (some 4) rfl rfl Tryd.func55 (by kernel_rfl) rfl #[.string a0] rfl (by (try simp only [List.map_toArray,List.map_cons,List.map_nil]);first|done|rfl|(simp only [List.length_drop,List.length_take];rfl)|(simp (disch:=first|omega|(simp at *;omega)) only [dF,dA,dV];rfl)) ?_;(with_reducible refine (aK.calls k a0 true _ A2.out).mono ?_);rintro e w' ⟨rfl,⟨nd,rfl⟩⟩;refine ⟨_,rfl,?_⟩))
   go_ret
   exact ⟨by first|rfl|(simp;done)|(simp [*];done),by repeat (first|exact Drawn0.refl _|apply Drawn0.step)⟩
 ·replace c3:=Bool.eq_false_iff.mpr c3
  subst c3
  have H1 : (some 10) = some r:=by rw [if_neg (show ¬ (false = true) by decide)] at H;exact H
  clear H
  have H:=H1
  clear H1
  obtain rfl:=Option.some.inj H
  go_enter Tryd.func49,Tryd.ntmps49
  go_wp2_with (first|((with_reducible refine bW (f:=55) rfl ?_);refine dJ (some 4) rfl rfl Tryd.func55 (by kernel_rfl) rfl #[.string a0] rfl (by (try simp only [List.map_toArray,List.map_cons,List.map_nil]);first|done|rfl|(simp only [List.length_drop,List.length_take];rfl)|(simp (disch:=first|omega|(simp at *;omega)) only [dF,dA,dV];rfl)) ?_;(with_reducible refine (aK.calls k a0 false _ A2.out).mono ?_);rintro e w' ⟨rfl,⟨nd,rfl⟩⟩;refine ⟨_,rfl,?_⟩))
  go_ret
  exact ⟨by first|rfl|(simp;done)|(simp [*];done),by repeat (first|exact Drawn0.refl _|apply Drawn0.step)⟩
end Go.Proofs.YtnkkbiabloodaaaDoor.GVa
