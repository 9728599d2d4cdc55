/- Written by this session's own program (wip/gen.py) out of the translation: plain Lean functions of the Go functions, and proofs that the calls come to their answers. No conditions beside those in the statements. -/
import Derived.Test.YtpmbdcljphpcnaaDoorGC2x0
namespace Go.Proofs.YtpmbdcljphpcnaaDoor.GC2
open Go.RowKit Go.Proofs.YtpmbdcljphpcnaaDoorW.PrintWords Go.Proofs.YtpmbdcljphpcnaaDoorW.PrintLast Go.Proofs.YtpmbdcljphpcnaaDoorW.PrintMore
attribute [local go_sem] eY eZ fJ fK eP eT fq fu
set_option linter.unusedVariables false
set_option linter.unusedSimpArgs false
mutual
def aT.j0 : Nat → Int → Int → Bool → Option (ByteArray)
 | 0,_,_,_=>none
 | k + 1,x0,x1,x20=>if x20 = true then (some (⟨#[]⟩ : ByteArray)) else (aT.l0 k x0 x1 (⟨#[]⟩ : ByteArray) 0)
def aT.l0 : Nat → Int → Int → ByteArray → Int → Option (ByteArray)
 | 0,_,_,_,_=>none
 | k + 1,x0,x1,x5,x6=>if x6 < x0 then ((some (([(Int.tmod x1 256) % 256] : List Int) : List Int)).bind fun xK=>(if (strOfNums xK).size + x5.size ≤ 9223372036854775807 then (aT.l0 k x0 (IntKind.u64.wrap (Int.tdiv x1 256)) ((strOfNums xK) ++ x5) (wrap64 (x6 + 1))) else (none))) else (some x5)
end
def aT.f (k : Nat) (a0 : Int) (a1 : Int) : Option (ByteArray):=if a0 = 1 then (aT.j0 k a0 a1 false) else (if a0 = 2 then (aT.j0 k a0 a1 false) else (if a0 = 4 then (aT.j0 k a0 a1 false) else (aT.j0 k a0 a1 (a0 != 8))))
theorem aT.dO : ∀ k,(∀ y0 y1 y2,LeO (aT.j0 k y0 y1 y2) (aT.j0 (k + 1) y0 y1 y2)) ∧ (∀ y0 y1 y2 y3,LeO (aT.l0 k y0 y1 y2 y3) (aT.l0 (k + 1) y0 y1 y2 y3))
 | 0=>⟨fun _ _ _ r h=>by simp [aT.j0] at h,fun _ _ _ _ r h=>by simp [aT.l0] at h⟩
 | k + 1=>by
  obtain ⟨xS,ih1⟩:=aT.dO k
  refine ⟨?_,?_⟩
  ·intro y0 y1 y2
   unfold aT.j0
   repeat' first
   | (with_reducible exact xS _ _ _)
   | (with_reducible exact ih1 _ _ _ _)
   | (with_reducible exact LeO.refl _)
   | (with_reducible exact LeO.none _)
   | (with_reducible refine LeO.ite ?_ ?_)
   | (with_reducible refine LeO.bind ?_ (fun _=>?_))
   | exact xS _ _ _
   | exact ih1 _ _ _ _
   | exact LeO.none _
   | refine LeO.ite ?_ ?_
   | refine LeO.bind ?_ (fun _=>?_)
  ·intro y0 y1 y2 y3
   unfold aT.l0
   repeat' first
   | (with_reducible exact xS _ _ _)
   | (with_reducible exact ih1 _ _ _ _)
   | (with_reducible exact LeO.refl _)
   | (with_reducible exact LeO.none _)
   | (with_reducible refine LeO.ite ?_ ?_)
   | (with_reducible refine LeO.bind ?_ (fun _=>?_))
   | exact xS _ _ _
   | exact ih1 _ _ _ _
   | exact LeO.none _
   | refine LeO.ite ?_ ?_
   | refine LeO.bind ?_ (fun _=>?_)
theorem aT.mono : ∀ a0 a1 k,LeO (aT.f k a0 a1) (aT.f (k + 1) a0 a1):=by
 intro a0 a1 k
 obtain ⟨xS,ih1⟩:=aT.dO k
 unfold aT.f
 repeat' first
   | (with_reducible exact xS _ _ _)
   | (with_reducible exact ih1 _ _ _ _)
   | (with_reducible exact LeO.refl _)
   | (with_reducible exact LeO.none _)
   | (with_reducible refine LeO.ite ?_ ?_)
   | (with_reducible refine LeO.bind ?_ (fun _=>?_))
   | exact xS _ _ _
   | exact ih1 _ _ _ _
   | exact LeO.none _
   | refine LeO.ite ?_ ?_
   | refine LeO.bind ?_ (fun _=>?_)
set_option maxHeartbeats 8000000 in
set_option maxRecDepth 100000 in
theorem aT.calls (k : Nat) (a0 : Int) (a1 : Int) (r : ByteArray) (w : World) (h : aT.f k a0 a1 = some r) :
  Calls Tryd.prog 43 #[.int .i64 a0,.int .u64 a1] w fun e w'=>e = .returned (.string r) ∧ Below w.heap.size w w':=by
 have HB:=Aside0.mk (Below.refl w.heap.size w)
 have H : (if a0 = 1 then (aT.j0 k a0 a1 false) else (if a0 = 2 then (aT.j0 k a0 a1 false) else (if a0 = 4 then (aT.j0 k a0 a1 false) else (aT.j0 k a0 a1 (a0 != 8))))) = some r:=h
 clear h
 have xW:=Aside0.mk H
 clear H
 go_enter Tryd.func43,Tryd.ntmps43
 go_upto_region 1 with (fail)
 go_cut [20] (fun v20 wc=>∃ (kq : Nat) (xP : Bool),v20 = .bool xP ∧ Aside0 (aT.j0 kq a0 a1 xP = some r) ∧ Aside0 (kq ≤ k) ∧ Aside0 (Below w.heap.size w wc))
 case first =>
  have H:=xW.out
  clear xW
  by_cases c4 : a0 = 1
  ·rw [if_pos c4] at H
   have c4b0 : (a0 == 1) = true:=beq_iff_eq.mpr c4
   have c4b1 : (a0 != 1) = false:=bne_eq_false_iff_eq.mpr c4
   clear c4
   (first|rw [c4b0]|(simp only [bD,bG];rw [c4b0])|skip)
   have H':=Aside0.mk H
   clear H
   go_wp2
   go_meet
   case rel=>exact ⟨_,(false),(by first|rfl|(simp;done)|(simp [*];done)),H',⟨by first|omega|exact Nat.le_refl _⟩,⟨by repeat (first|(with_reducible first|exact HB.out|apply ay|apply aj|apply av)|exact HB.out)⟩⟩
  ·rw [if_neg c4] at H
   have c4b0 : (a0 == 1) = false:=beq_eq_false_iff_ne.mpr c4
   have c4b1 : (a0 != 1) = true:=bne_iff_ne.mpr c4
   (first|rw [c4b0]|(simp only [bD,bG];rw [c4b0])|skip)
   by_cases c5 : a0 = 2
   ·rw [if_pos c5] at H
    have c5b0 : (a0 == 2) = true:=beq_iff_eq.mpr c5
    have c5b1 : (a0 != 2) = false:=bne_eq_false_iff_eq.mpr c5
    clear c5
    have H':=Aside0.mk H
    clear H
    go_wp2
    go_meet
    case rel=>exact ⟨_,(false),(by first|rfl|(simp;done)|(simp [*];done)),H',⟨by first|omega|exact Nat.le_refl _⟩,⟨by repeat (first|(with_reducible first|exact HB.out|apply ay|apply aj|apply av)|exact HB.out)⟩⟩
   ·rw [if_neg c5] at H
    have c5b0 : (a0 == 2) = false:=beq_eq_false_iff_ne.mpr c5
    have c5b1 : (a0 != 2) = true:=bne_iff_ne.mpr c5
    by_cases c6 : a0 = 4
    ·rw [if_pos c6] at H
     have c6b0 : (a0 == 4) = true:=beq_iff_eq.mpr c6
     have c6b1 : (a0 != 4) = false:=bne_eq_false_iff_eq.mpr c6
     clear c6
     have H':=Aside0.mk H
     clear H
     go_wp2
     go_meet
     case rel=>exact ⟨_,(false),(by first|rfl|(simp;done)|(simp [*];done)),H',⟨by first|omega|exact Nat.le_refl _⟩,⟨by repeat (first|(with_reducible first|exact HB.out|apply ay|apply aj|apply av)|exact HB.out)⟩⟩
    ·rw [if_neg c6] at H
     have c6b0 : (a0 == 4) = false:=beq_eq_false_iff_ne.mpr c6
     have c6b1 : (a0 != 4) = true:=bne_iff_ne.mpr c6
     have H':=Aside0.mk H
     clear H
     go_wp2
     go_meet
     case rel=>exact ⟨_,((a0 != 8)),(by first|rfl|(simp;done)|(simp [*];done)),H',⟨by first|omega|exact Nat.le_refl _⟩,⟨by repeat (first|(with_reducible first|exact HB.out|apply ay|apply aj|apply av)|exact HB.out)⟩⟩
 case rest =>
  clear xW
  try clear p2
  try clear c4
  try clear c4b0
  try clear c4b1
  try clear c5
  try clear c5b0
  try clear c5b1
  try clear c6
  try clear c6b0
  try clear c6b1
  obtain ⟨kq,xP,rfl,HA,HJ2,HB⟩:=hcut
  cases kq with
  | zero=>exact absurd HA.out (by simp [aT.j0])
  | succ xX =>
   have H:=HA.out
   clear HA
   simp only [aT.j0] at H
   by_cases c7 : xP = true
   ·subst c7
    have H1 : (some (⟨#[]⟩ : ByteArray)) = some r:=by rw [if_pos rfl] at H;exact H
    clear H
    have H:=H1
    clear H1
    obtain rfl:=Option.some.inj H
    go_wp2
    go_ret
    exact ⟨by first|rfl|(simp [aZ,bf] <;> rfl)|(simp [*,aZ,bf] <;> rfl),by repeat (first|(with_reducible first|exact HB.out|apply ay|apply aj|apply av)|exact HB.out)⟩
   ·replace c7:=Bool.eq_false_iff.mpr c7
    subst c7
    have H1 : (aT.l0 xX a0 a1 (⟨#[]⟩ : ByteArray) 0) = some r:=by rw [if_neg (show ¬ (false = true) by decide)] at H;exact H
    clear H
    have H:=H1
    clear H1
    have H':=Aside0.mk H
    clear H
    go_wp2
    go_loopg [1,5,6] xX (fun kq v1 v5 v6 w'=>∃ (xJ : Int) (xL : ByteArray) (xM : Int),v1 = .int .u64 xJ ∧ v5 = .string xL ∧ v6 = .int .i64 xM ∧ Aside0 (aT.l0 kq a0 xJ xL xM = some r) ∧ Aside0 (kq ≤ xX) ∧ Aside0 (Below w.heap.size w w'))
    case atStart=>exact ⟨(a1),((⟨#[]⟩ : ByteArray)),(0),(by first|rfl|(simp;done)|(simp [*];done)),(by first|rfl|(simp;done)|(simp [*];done)),(by first|rfl|(simp;done)|(simp [*];done)),H',⟨Nat.le_refl _⟩,⟨by repeat (first|(with_reducible first|exact HB.out|apply ay|apply aj|apply av)|exact HB.out)⟩⟩
    case round =>
     clear H'
     try clear p2
     try clear c4
     try clear c4b0
     try clear c4b1
     try clear c5
     try clear c5b0
     try clear c5b1
     try clear c6
     try clear c6b0
     try clear c6b1
     try clear c7
     try clear p2
     obtain ⟨xJ,xL,xM,rfl,rfl,rfl,HA,xZ,HB⟩:=hrel
     cases gk with
     | zero=>exact absurd HA.out (by simp [aT.l0])
     | succ k2 =>
      have H:=HA.out
      clear HA
      simp only [aT.l0] at H
      by_cases c8 : xM < a0
      ·rw [if_pos c8] at H
       have c8b0 : decide (xM < a0) = true:=decide_eq_true c8
       clear c8
       obtain ⟨xK,xO⟩ : ∃ y_ : List Int,y_ = (([(Int.tmod xJ 256) % 256] : List Int)):=⟨_,rfl⟩
       replace H : (if (strOfNums xK).size + xL.size ≤ 9223372036854775807 then (aT.l0 k2 a0 (IntKind.u64.wrap (Int.tdiv xJ 256)) ((strOfNums xK) ++ xL) (wrap64 (xM + 1))) else (none)) = some r:=by first|(rw [xO];with_reducible exact H)|(have xY:=(Option.bind_some _ _).symm.trans H;rw [xO];with_reducible exact xY)|(have xY:=(Option.bind_some _ _).symm.trans H;with_reducible exact xY)|with_reducible exact H|(rw [xO];exact H)|exact H
       have xR:=Aside0.mk xO
       clear xO
       by_cases c9 : (strOfNums xK).size + xL.size ≤ 9223372036854775807
       ·rw [if_pos c9] at H
        have c9b0:=eq_true c9
        have c9b1 : decide ((strOfNums xK).size + xL.size ≤ 9223372036854775807) = true:=decide_eq_true c9
        try have c9b2 : (9223372036854775807 < (strOfNums xK).size + xL.size) = False:=eq_false (Nat.not_lt.2 c9)
        have H':=Aside0.mk H
        clear H
        go_wp2_with (first|((with_reducible refine dN (N:=29) rfl ?_);refine Kd.tL (Kd.int .u8) _ 5 ?hg (N:=29) ?hd (xs:=([(Int.tmod xJ 256) % 256] : List Int)) (inner:=[.int .u8 ((Int.tmod xJ 256) % 256)]) (ok:=fun _=>True) (okp:=fun _=>True) ?hr ?hp (fun _ hk=>hk) trivial (Below.refl _ _) (Nat.le_refl _) (by simp) ?_;(case hd=>rfl);(case hg=>rfl);(case hr=>first|(go_simp;done)|(go_simp;rfl));(case hp=>exact (dZ.one (show Kd.M (Kd.int .u8) _ _ _ ((Int.tmod xJ 256) % 256) [.int .u8 ((Int.tmod xJ 256) % 256)] from rfl) (dZ.none _ _)));intro yj yt xQ hb hg_ hnew_;clear hg_ hnew_;(first|rw [← xR.out] at xQ|(simp only [Int.reduceToNat] at xQ;rw [← xR.out] at xQ));have xU:=Aside0.mk (Kd.gP xQ (aV (by repeat (first|(with_reducible first|exact HB.out|apply ay|apply aj|apply av)|exact HB.out))));have yc:=Aside0.mk (aQ (by repeat (first|(with_reducible first|exact HB.out|apply ay|apply aj|apply av)|exact HB.out)) hb);clear HB;have xV:=xU;have HB:=yc;clear xU yc;clear hb xQ;have yg:=fU (P:=Tryd.prog) Tryd.underlying69 Tryd.underlying5 Tryd.underlying9 (Kd.gF xV.out)))
        go_roundg k2
        case measure=>have:=HJ2.out;have:=xZ.out;omega
        case rel=>exact ⟨(IntKind.u64.wrap (Int.tdiv xJ 256)),((strOfNums xK) ++ xL),(wrap64 (xM + 1)),(by first|rfl|(simp;done)|(simp [*];done)),(by first|rfl|(simp;done)|(simp [*];done)),(by first|rfl|(simp;done)|(simp [*];done)),H',⟨by have:=HJ2.out;have:=xZ.out;omega⟩,⟨by repeat (first|(with_reducible first|exact HB.out|apply ay|apply aj|apply av)|exact HB.out)⟩⟩
       ·rw [if_neg c9] at H
        exact absurd H (by simp)
      ·rw [if_neg c8] at H
       have c8b0 : decide (xM < a0) = false:=decide_eq_false c8
       clear c8
       obtain rfl:=Option.some.inj H
       go_wp2
       go_ret
       exact ⟨by first|rfl|(simp [aZ,bf] <;> rfl)|(simp [*,aZ,bf] <;> rfl),by repeat (first|(with_reducible first|exact HB.out|apply ay|apply aj|apply av)|exact HB.out)⟩
def bJ.f (k : Nat) (a0 : ByteArray) : Option (ByteArray):=(aT.f k 2 (IntKind.u64.wrap ((a0.size : Int)))).bind fun xI=>(if xI.size + a0.size ≤ 9223372036854775807 then (some (xI ++ a0)) else (none))
theorem bJ.mono : ∀ a0 k,LeO (bJ.f k a0) (bJ.f (k + 1) a0):=by
 intro a0 k
 unfold bJ.f
 repeat' first
   | (with_reducible exact aT.mono _ _ _)
   | (with_reducible exact LeO.refl _)
   | (with_reducible exact LeO.none _)
   | (with_reducible refine LeO.ite ?_ ?_)
   | (with_reducible refine LeO.bind ?_ (fun _=>?_))
   | exact aT.mono _ _ _
   | exact LeO.none _
   | refine LeO.ite ?_ ?_
   | refine LeO.bind ?_ (fun _=>?_)
set_option maxHeartbeats 8000000 in
set_option maxRecDepth 100000 in
theorem bJ.calls (k : Nat) (a0 : ByteArray) (r : ByteArray) (w : World) (h : bJ.f k a0 = some r) :
  Calls Tryd.prog 44 #[.string a0] w fun e w'=>e = .returned (.string r) ∧ Below w.heap.size w w':=by
 have HB:=Aside0.mk (Below.refl w.heap.size w)
 have H : ((aT.f k 2 (IntKind.u64.wrap ((a0.size : Int)))).bind fun xI=>(if xI.size + a0.size ≤ 9223372036854775807 then (some (xI ++ a0)) else (none))) = some r:=h
 clear h
 replace H:=Option.bind_eq_some_iff.mp H
 obtain ⟨xI,yh,H⟩:=H
 replace H : (if xI.size + a0.size ≤ 9223372036854775807 then (some (xI ++ a0)) else (none)) = some r:=H
 have A2:=Aside0.mk yh
 clear yh
 by_cases c3 : xI.size + a0.size ≤ 9223372036854775807
 ·rw [if_pos c3] at H
  have c3b0:=eq_true c3
  have c3b1 : decide (xI.size + a0.size ≤ 9223372036854775807) = true:=decide_eq_true c3
  try have c3b2 : (9223372036854775807 < xI.size + a0.size) = False:=eq_false (Nat.not_lt.2 c3)
  obtain rfl:=Option.some.inj H
  go_enter Tryd.func44,Tryd.ntmps44
  go_wp2_with (first|((with_reducible refine bK (f:=43) rfl ?_);refine dH (some 6) rfl rfl Tryd.func43 (by kernel_rfl) rfl #[.int .i64 2,.int .u64 (IntKind.u64.wrap ((a0.size : Int)))] rfl (by (try simp only [List.map_toArray,List.map_cons,List.map_nil]);first|done|rfl|(simp only [List.length_drop,List.length_take];rfl)|(simp (disch:=first|omega|(simp at *;omega)) only [dh,bY,dY];rfl)) ?_;(with_reducible refine (aT.calls k 2 (IntKind.u64.wrap ((a0.size : Int))) xI _ A2.out).mono ?_);rintro e w4 ⟨rfl,hb⟩;refine ⟨_,rfl,?_⟩;have xU:=Aside0.mk (aQ (by repeat (first|(with_reducible first|exact HB.out|apply ay|apply aj|apply av)|exact HB.out)) hb);clear HB;have HB:=xU;clear xU;(try clear hb);(try clear hb2);(try clear hk);(try clear hi)))
  go_ret
  exact ⟨by first|rfl|(simp [aZ,bf] <;> rfl)|(simp [*,aZ,bf] <;> rfl),by repeat (first|(with_reducible first|exact HB.out|apply ay|apply aj|apply av)|exact HB.out)⟩
 ·rw [if_neg c3] at H
  exact absurd H (by simp)
end Go.Proofs.YtpmbdcljphpcnaaDoor.GC2
