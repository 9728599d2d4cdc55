/- Written by this session's own program (wip/gen.py) out of the translation: plain Lean functions of the Go functions, and proofs that the calls come to their answers. No conditions beside those in the statements. -/
import Derived.Test.YtpflenjhmeaeoaaDoorGUtx0
namespace Go.Proofs.YtpflenjhmeaeoaaDoor.GUt
open Go.RowKit Go.Proofs.YtpflenjhmeaeoaaDoorW.PrintWords Go.Proofs.YtpflenjhmeaeoaaDoorW.PrintLast Go.Proofs.YtpflenjhmeaeoaaDoorW.PrintMore
attribute [local go_sem] dS dU eG eH dI dJ dV dW
set_option linter.unusedVariables false
set_option linter.unusedSimpArgs false
def aL.l0 : Nat → List ByteArray → ByteArray → Int → Option (Int)
 | 0,_,_,_=>none
 | k + 1,x0,x1,x5=>if x5 < (x0.length : Int) then (if 0 ≤ x5 then (if (gL ByteArray.empty x0 x5).toList = x1.toList then (some x5) else (aL.l0 k x0 x1 (wrap64 (x5 + 1)))) else (none)) else (some (-1))
def aL.f (k : Nat) (l0 : List ByteArray) (a1 : ByteArray) : Option (Int):=aL.l0 k l0 a1 0
theorem aL.eu : ∀ k,(∀ y0 y1 y2,LeO (aL.l0 k y0 y1 y2) (aL.l0 (k + 1) y0 y1 y2))
 | 0=>fun _ _ _ r h=>by simp [aL.l0] at h
 | k + 1=>by
  have sQ:=aL.eu k
  ·intro y0 y1 y2
   unfold aL.l0
   repeat' first
   | (with_reducible exact sQ _ _ _)
   | (with_reducible exact LeO.refl _)
   | (with_reducible exact LeO.none _)
   | (with_reducible refine LeO.ite ?_ ?_)
   | (with_reducible refine LeO.bind ?_ (fun _=>?_))
   | exact sQ _ _ _
   | exact LeO.none _
   | refine LeO.ite ?_ ?_
   | refine LeO.bind ?_ (fun _=>?_)
theorem aL.mono : ∀ a0 a1 k,LeO (aL.f k a0 a1) (aL.f (k + 1) a0 a1):=by
 intro a0 a1 k
 have sQ:=aL.eu k
 unfold aL.f
 repeat' first
   | (with_reducible exact sQ _ _ _)
   | (with_reducible exact LeO.refl _)
   | (with_reducible exact LeO.none _)
   | (with_reducible refine LeO.ite ?_ ?_)
   | (with_reducible refine LeO.bind ?_ (fun _=>?_))
   | exact sQ _ _ _
   | exact LeO.none _
   | refine LeO.ite ?_ ?_
   | refine LeO.bind ?_ (fun _=>?_)
set_option maxHeartbeats 8000000 in
set_option maxRecDepth 100000 in
theorem aL.calls (k : Nat) (A0 : Option Addr) (c0 : Nat) (l0 : List ByteArray) (a1 : ByteArray) (r : Int) (w : World) (hr0 : Kd.C Kd.string w A0 l0.length l0) (hc0 : l0.length ≤ c0) (h : aL.f k l0 a1 = some r) :
  Calls Tryd.prog 18 #[.slice A0 l0.length c0,.string a1] w fun e w'=>e = .returned (.int .i64 r) ∧ Drawn0 w w':=by
 have tu:=Aside0.mk hr0
 have tN:=Aside0.mk hc0
 clear hr0 hc0
 have H : (aL.l0 k l0 a1 0) = some r:=h
 clear h
 have H':=Aside0.mk H
 clear H
 go_enter Tryd.func18,Tryd.ntmps18
 go_wp2
 go_loopg [5] k (fun kq v5 w'=>∃ (sD : Int),v5 = .int .i64 sD ∧ Aside0 (aL.l0 kq l0 a1 sD = some r) ∧ Aside0 (kq ≤ k) ∧ Drawn0 w w')
 case atStart=>exact ⟨(0),(by first|rfl|(simp;done)|(simp [*];done)),H',⟨Nat.le_refl _⟩,by repeat (first|exact Drawn0.refl _|apply Drawn0.step)⟩
 case round =>
  clear H'
  try clear c1
  try clear p2
  obtain ⟨sD,rfl,HA,tK,⟨m1,rfl⟩⟩:=hrel
  cases gk with
  | zero=>exact absurd HA.out (by simp [aL.l0])
  | succ k1 =>
   have H:=HA.out
   clear HA
   simp only [aL.l0] at H
   by_cases c3 : sD < (l0.length : Int)
   ·rw [if_pos c3] at H
    have c3b0 : decide (sD < (l0.length : Int)) = true:=decide_eq_true c3
    clear c3
    by_cases c4 : 0 ≤ sD
    ·rw [if_pos c4] at H
     have c4b0 : decide (0 ≤ sD) = true:=decide_eq_true c4
     clear c4
     by_cases c5 : (gL ByteArray.empty l0 sD).toList = a1.toList
     ·rw [if_pos c5] at H
      have c5b0 : ((gL ByteArray.empty l0 sD).toList == a1.toList) = true:=beq_iff_eq.mpr c5
      have c5b1 : ((gL ByteArray.empty l0 sD).toList != a1.toList) = false:=bne_eq_false_iff_eq.mpr c5
      clear c5
      obtain rfl:=Option.some.inj H
      have sH : 0 ≤ (sD : Int):=of_decide_eq_true (by first|(with_reducible assumption)|assumption)
      have sI : sD < (l0.length : Int):=of_decide_eq_true (by first|(with_reducible assumption)|assumption)
      obtain ⟨sS,e168,sJ⟩:=Kd.gy tu.out sD sH sI
      cases e168
      replace sH:=eq_true sH
      replace sI:=eq_true sI
      go_wp2
      go_ret
      exact ⟨by first|rfl|(simp;done)|(simp [*];done),by repeat (first|exact Drawn0.refl _|apply Drawn0.step)⟩
     ·rw [if_neg c5] at H
      have c5b0 : ((gL ByteArray.empty l0 sD).toList == a1.toList) = false:=beq_eq_false_iff_ne.mpr c5
      have c5b1 : ((gL ByteArray.empty l0 sD).toList != a1.toList) = true:=bne_iff_ne.mpr c5
      have H':=Aside0.mk H
      clear H
      have sH : 0 ≤ (sD : Int):=of_decide_eq_true (by first|(with_reducible assumption)|assumption)
      have sI : sD < (l0.length : Int):=of_decide_eq_true (by first|(with_reducible assumption)|assumption)
      obtain ⟨sS,e168,sJ⟩:=Kd.gy tu.out sD sH sI
      cases e168
      replace sH:=eq_true sH
      replace sI:=eq_true sI
      go_wp2
      go_roundg k1
      case measure=>have:=tK.out;omega
      case rel=>exact ⟨(wrap64 (sD + 1)),(by first|rfl|(simp;done)|(simp [*];done)),H',⟨by have:=tK.out;omega⟩,by repeat (first|exact Drawn0.refl _|apply Drawn0.step)⟩
    ·rw [if_neg c4] at H
     exact absurd H (by simp)
   ·rw [if_neg c3] at H
    have c3b0 : decide (sD < (l0.length : Int)) = false:=decide_eq_false c3
    clear c3
    obtain rfl:=Option.some.inj H
    go_wp2
    go_ret
    exact ⟨by first|rfl|(simp;done)|(simp [*];done),by repeat (first|exact Drawn0.refl _|apply Drawn0.step)⟩
def bG.f  : Option (List ByteArray):=some (([(⟨#[97,108,119,97,121,115]⟩ : ByteArray),(⟨#[111,110,45,102,97,105,108,117,114,101]⟩ : ByteArray),(⟨#[110,101,118,101,114]⟩ : ByteArray)] : List ByteArray))
set_option maxHeartbeats 8000000 in
set_option maxRecDepth 100000 in
theorem bG.calls  (r : List ByteArray) (w : World) (h : bG.f  = some r) :
  Calls Tryd.prog 19 #[] w fun e w'=>∃ sU : Value,e = .returned (sU) ∧ Kd.R Kd.string 9 w' w.heap.size (fun _=>True) sU r ∧ Below w.heap.size w w':=by
 have HB:=Aside0.mk (Below.refl w.heap.size w)
 have H : (some (([(⟨#[97,108,119,97,121,115]⟩ : ByteArray),(⟨#[111,110,45,102,97,105,108,117,114,101]⟩ : ByteArray),(⟨#[110,101,118,101,114]⟩ : ByteArray)] : List ByteArray))) = some r:=h
 clear h
 obtain ⟨tF,sF⟩ : ∃ y_ : List ByteArray,y_ = (([(⟨#[97,108,119,97,121,115]⟩ : ByteArray),(⟨#[111,110,45,102,97,105,108,117,114,101]⟩ : ByteArray),(⟨#[110,101,118,101,114]⟩ : ByteArray)] : List ByteArray)):=⟨_,rfl⟩
 replace H : (some tF) = some r:=by first|(rw [sF];with_reducible exact H)|(have sN:=(Option.bind_some _ _).symm.trans H;rw [sF];with_reducible exact sN)|(have sN:=(Option.bind_some _ _).symm.trans H;with_reducible exact sN)|with_reducible exact H|(rw [sF];exact H)|exact H
 have sK:=Aside0.mk sF
 clear sF
 obtain rfl:=Option.some.inj H
 go_enter Tryd.func19,Tryd.ntmps19
 go_wp2_with (first|((with_reducible refine dN (N:=1) rfl ?_);refine Kd.mh Kd.string _ 9 ?hg (N:=1) ?hd (xs:=([(⟨#[97,108,119,97,121,115]⟩ : ByteArray),(⟨#[111,110,45,102,97,105,108,117,114,101]⟩ : ByteArray),(⟨#[110,101,118,101,114]⟩ : ByteArray)] : List ByteArray)) (inner:=[.string (⟨#[97,108,119,97,121,115]⟩ : ByteArray),.string (⟨#[111,110,45,102,97,105,108,117,114,101]⟩ : ByteArray),.string (⟨#[110,101,118,101,114]⟩ : ByteArray)]) (ok:=fun _=>True) (okp:=fun _=>True) ?hr ?hp (fun _ hk=>hk) trivial (Below.refl _ _) (Nat.le_refl _) (by simp) ?_;(case hd=>rfl);(case hg=>rfl);(case hr=>first|(go_simp;done)|(go_simp;rfl));(case hp=>exact (dh.one (show Kd.M Kd.string _ _ _ (⟨#[97,108,119,97,121,115]⟩ : ByteArray) [.string (⟨#[97,108,119,97,121,115]⟩ : ByteArray)] from rfl) (dh.one (show Kd.M Kd.string _ _ _ (⟨#[111,110,45,102,97,105,108,117,114,101]⟩ : ByteArray) [.string (⟨#[111,110,45,102,97,105,108,117,114,101]⟩ : ByteArray)] from rfl) (dh.one (show Kd.M Kd.string _ _ _ (⟨#[110,101,118,101,114]⟩ : ByteArray) [.string (⟨#[110,101,118,101,114]⟩ : ByteArray)] from rfl) (dh.none _ _)))));intro tO w1 ho2 hb hg_ hnew_;clear hg_ hnew_;(first|rw [← sK.out] at ho2|(simp only [Int.reduceToNat] at ho2;rw [← sK.out] at ho2));have sV:=Aside0.mk (Kd.fG ho2 (aU (by repeat (first|(with_reducible first|exact HB.out|apply ay|apply aj|apply av)|exact HB.out))));have sW:=Aside0.mk (aH (by repeat (first|(with_reducible first|exact HB.out|apply ay|apply aj|apply av)|exact HB.out)) hb);clear HB;have sZ:=sV;have HB:=sW;clear sV sW;clear hb ho2))
 go_ret
 exact ⟨_,by first|rfl|(simp [aP,aQ] <;> rfl)|(simp [*,aP,aQ] <;> rfl),by (with_reducible repeat (first|apply Kd.gP|apply Kd.gQ|apply Kd.iL));exact sZ.out,by repeat (first|(with_reducible first|exact HB.out|apply ay|apply aj|apply av)|exact HB.out)⟩
def bA.f  : Option (List ByteArray):=some (([(⟨#[116,99,112]⟩ : ByteArray),(⟨#[117,100,112]⟩ : ByteArray)] : List ByteArray))
set_option maxHeartbeats 8000000 in
set_option maxRecDepth 100000 in
theorem bA.calls  (r : List ByteArray) (w : World) (h : bA.f  = some r) :
  Calls Tryd.prog 20 #[] w fun e w'=>∃ sU : Value,e = .returned (sU) ∧ Kd.R Kd.string 9 w' w.heap.size (fun _=>True) sU r ∧ Below w.heap.size w w':=by
 have HB:=Aside0.mk (Below.refl w.heap.size w)
 have H : (some (([(⟨#[116,99,112]⟩ : ByteArray),(⟨#[117,100,112]⟩ : ByteArray)] : List ByteArray))) = some r:=h
 clear h
 obtain ⟨tH,sG⟩ : ∃ y_ : List ByteArray,y_ = (([(⟨#[116,99,112]⟩ : ByteArray),(⟨#[117,100,112]⟩ : ByteArray)] : List ByteArray)):=⟨_,rfl⟩
 replace H : (some tH) = some r:=by first|(rw [sG];with_reducible exact H)|(have sN:=(Option.bind_some _ _).symm.trans H;rw [sG];with_reducible exact sN)|(have sN:=(Option.bind_some _ _).symm.trans H;with_reducible exact sN)|with_reducible exact H|(rw [sG];exact H)|exact H
 have sM:=Aside0.mk sG
 clear sG
 obtain rfl:=Option.some.inj H
 go_enter Tryd.func20,Tryd.ntmps20
 go_wp2_with (first|((with_reducible refine dN (N:=1) rfl ?_);refine Kd.mh Kd.string _ 9 ?hg (N:=1) ?hd (xs:=([(⟨#[116,99,112]⟩ : ByteArray),(⟨#[117,100,112]⟩ : ByteArray)] : List ByteArray)) (inner:=[.string (⟨#[116,99,112]⟩ : ByteArray),.string (⟨#[117,100,112]⟩ : ByteArray)]) (ok:=fun _=>True) (okp:=fun _=>True) ?hr ?hp (fun _ hk=>hk) trivial (Below.refl _ _) (Nat.le_refl _) (by simp) ?_;(case hd=>rfl);(case hg=>rfl);(case hr=>first|(go_simp;done)|(go_simp;rfl));(case hp=>exact (dh.one (show Kd.M Kd.string _ _ _ (⟨#[116,99,112]⟩ : ByteArray) [.string (⟨#[116,99,112]⟩ : ByteArray)] from rfl) (dh.one (show Kd.M Kd.string _ _ _ (⟨#[117,100,112]⟩ : ByteArray) [.string (⟨#[117,100,112]⟩ : ByteArray)] from rfl) (dh.none _ _))));intro v173 w1 ho2 hb hg_ hnew_;clear hg_ hnew_;(first|rw [← sM.out] at ho2|(simp only [Int.reduceToNat] at ho2;rw [← sM.out] at ho2));have sV:=Aside0.mk (Kd.fG ho2 (aU (by repeat (first|(with_reducible first|exact HB.out|apply ay|apply aj|apply av)|exact HB.out))));have sW:=Aside0.mk (aH (by repeat (first|(with_reducible first|exact HB.out|apply ay|apply aj|apply av)|exact HB.out)) hb);clear HB;have tq:=sV;have HB:=sW;clear sV sW;clear hb ho2))
 go_ret
 exact ⟨_,by first|rfl|(simp [aP,aQ] <;> rfl)|(simp [*,aP,aQ] <;> rfl),by (with_reducible repeat (first|apply Kd.gP|apply Kd.gQ|apply Kd.iL));exact tq.out,by repeat (first|(with_reducible first|exact HB.out|apply ay|apply aj|apply av)|exact HB.out)⟩
def eF.f (l0 : List ByteArray) (a1 : Int) : Option (ByteArray):=if a1 < 0 then (some (⟨#[110,111,110,101]⟩ : ByteArray)) else (if a1 ≥ (l0.length : Int) then (some (⟨#[110,111,110,101]⟩ : ByteArray)) else (if 0 ≤ a1 then (if a1 < (l0.length : Int) then (some (gL ByteArray.empty l0 a1)) else (none)) else (none)))
set_option maxHeartbeats 8000000 in
set_option maxRecDepth 100000 in
theorem eF.calls (A0 : Option Addr) (c0 : Nat) (l0 : List ByteArray) (a1 : Int) (r : ByteArray) (w : World) (hr0 : Kd.C Kd.string w A0 l0.length l0) (hc0 : l0.length ≤ c0) (h : eF.f l0 a1 = some r) :
  Calls Tryd.prog 56 #[.slice A0 l0.length c0,.int .i64 a1] w fun e w'=>e = .returned (.string r) ∧ Drawn0 w w':=by
 have tu:=Aside0.mk hr0
 have tN:=Aside0.mk hc0
 clear hr0 hc0
 have H : (if a1 < 0 then (some (⟨#[110,111,110,101]⟩ : ByteArray)) else (if a1 ≥ (l0.length : Int) then (some (⟨#[110,111,110,101]⟩ : ByteArray)) else (if 0 ≤ a1 then (if a1 < (l0.length : Int) then (some (gL ByteArray.empty l0 a1)) else (none)) else (none)))) = some r:=h
 clear h
 by_cases c3 : a1 < 0
 ·rw [if_pos c3] at H
  have c3b0 : decide (a1 < 0) = true:=decide_eq_true c3
  clear c3
  obtain rfl:=Option.some.inj H
  go_enter Tryd.func56,Tryd.ntmps56
  go_wp2
  go_ret
  exact ⟨by first|rfl|(simp;done)|(simp [*];done),by repeat (first|exact Drawn0.refl _|apply Drawn0.step)⟩
 ·rw [if_neg c3] at H
  have c3b0 : decide (a1 < 0) = false:=decide_eq_false c3
  clear c3
  by_cases c4 : a1 ≥ (l0.length : Int)
  ·rw [if_pos c4] at H
   have c4b0 : decide ((l0.length : Int) ≤ a1) = true:=decide_eq_true c4
   clear c4
   obtain rfl:=Option.some.inj H
   go_enter Tryd.func56,Tryd.ntmps56
   go_wp2
   go_ret
   exact ⟨by first|rfl|(simp;done)|(simp [*];done),by repeat (first|exact Drawn0.refl _|apply Drawn0.step)⟩
  ·rw [if_neg c4] at H
   have c4b0 : decide ((l0.length : Int) ≤ a1) = false:=decide_eq_false c4
   clear c4
   by_cases c5 : 0 ≤ a1
   ·rw [if_pos c5] at H
    have c5b0 : decide (0 ≤ a1) = true:=decide_eq_true c5
    clear c5
    by_cases c6 : a1 < (l0.length : Int)
    ·rw [if_pos c6] at H
     have c6b0 : decide (a1 < (l0.length : Int)) = true:=decide_eq_true c6
     clear c6
     obtain rfl:=Option.some.inj H
     have sO : 0 ≤ (a1 : Int):=of_decide_eq_true (by first|(with_reducible assumption)|assumption)
     have sP : a1 < (l0.length : Int):=of_decide_eq_true (by first|(with_reducible assumption)|assumption)
     obtain ⟨tL,tJ,tC⟩:=Kd.gy tu.out a1 sO sP
     cases tJ
     replace sO:=eq_true sO
     replace sP:=eq_true sP
     go_enter Tryd.func56,Tryd.ntmps56
     go_wp2
     go_ret
     exact ⟨by first|rfl|(simp;done)|(simp [*];done),by repeat (first|exact Drawn0.refl _|apply Drawn0.step)⟩
    ·rw [if_neg c6] at H
     exact absurd H (by simp)
   ·rw [if_neg c5] at H
    exact absurd H (by simp)
end Go.Proofs.YtpflenjhmeaeoaaDoor.GUt
