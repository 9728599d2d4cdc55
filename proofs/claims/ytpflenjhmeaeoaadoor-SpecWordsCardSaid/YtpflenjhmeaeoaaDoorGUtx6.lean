/- Written by this session's own program (wip/gen.py) out of the translation: plain Lean functions of the Go functions, and proofs that the calls come to their answers. No conditions beside those in the statements. -/
import Derived.Test.YtpflenjhmeaeoaaDoorGUtx0
namespace Go.Proofs.YtpflenjhmeaeoaaDoor.GUt
open Go.RowKit Go.Proofs.YtpflenjhmeaeoaaDoorW.PrintWords Go.Proofs.YtpflenjhmeaeoaaDoorW.PrintLast Go.Proofs.YtpflenjhmeaeoaaDoorW.PrintMore
attribute [local go_sem] dS dU eG eH dI dJ dV dW
set_option linter.unusedVariables false
set_option linter.unusedSimpArgs false
def fQ.f (a0 : Int) (a1 : Int) : Option (Int):=if a0 = 0 then (some a1) else (some a0)
set_option maxHeartbeats 8000000 in
set_option maxRecDepth 100000 in
theorem fQ.calls (a0 : Int) (a1 : Int) (r : Int) (w : World) (h : fQ.f a0 a1 = some r) :
  Calls Tryd.prog 46 #[.int .i64 a0,.int .i64 a1] w fun e w'=>e = .returned (.int .i64 r) ∧ Drawn0 w w':=by
 have H : (if a0 = 0 then (some a1) else (some a0)) = some r:=h
 clear h
 by_cases c3 : a0 = 0
 ·rw [if_pos c3] at H
  have c3b0 : (a0 == 0) = true:=beq_iff_eq.mpr c3
  have c3b1 : (a0 != 0) = false:=bne_eq_false_iff_eq.mpr c3
  clear c3
  obtain rfl:=Option.some.inj H
  go_enter Tryd.func46,Tryd.ntmps46
  go_wp2
  go_ret
  exact ⟨by first|rfl|(simp;done)|(simp [*];done),by repeat (first|exact Drawn0.refl _|apply Drawn0.step)⟩
 ·rw [if_neg c3] at H
  have c3b0 : (a0 == 0) = false:=beq_eq_false_iff_ne.mpr c3
  have c3b1 : (a0 != 0) = true:=bne_iff_ne.mpr c3
  obtain rfl:=Option.some.inj H
  go_enter Tryd.func46,Tryd.ntmps46
  go_wp2
  go_ret
  exact ⟨by first|rfl|(simp;done)|(simp [*];done),by repeat (first|exact Drawn0.refl _|apply Drawn0.step)⟩
def aZ.f  : Option (ByteArray × ByteArray × Int × Int × Bool × (List (S43))):=some ((⟨#[119,101,98]⟩ : ByteArray),(⟨#[]⟩ : ByteArray),0,0,false,(([(⟨(⟨#[99]⟩ : ByteArray),(⟨#[110,103,105,110,120]⟩ : ByteArray),([] : List ByteArray),([] : List (S46)),0,0,([] : List (S82))⟩ : S43)] : List (S43))))
set_option maxHeartbeats 8000000 in
set_option maxRecDepth 100000 in
theorem aZ.calls  (r1 : ByteArray) (r2 : ByteArray) (r3 : Int) (r4 : Int) (r5 : Bool) (r6 : List (S43)) (w : World) (h : aZ.f  = some (r1,r2,r3,r4,r5,r6)) :
  Calls Tryd.prog 31 #[] w fun e w'=>∃ tK : Value,e = .returned (.agg #[.string r1,.string r2,.int .i64 r3,.int .i64 r4,.bool r5,tK]) ∧ Kd.S k43 43 w' w.heap.size (fun _=>True) tK r6 ∧ Below w.heap.size w w':=by
 have tT:=Tryd.underlying25
 have tV:=Tryd.underlying43
 have HB:=Aside0.mk (Below.refl w.heap.size w)
 have H : (some ((⟨#[119,101,98]⟩ : ByteArray),(⟨#[]⟩ : ByteArray),0,0,false,(([(⟨(⟨#[99]⟩ : ByteArray),(⟨#[110,103,105,110,120]⟩ : ByteArray),([] : List ByteArray),([] : List (S46)),0,0,([] : List (S82))⟩ : S43)] : List (S43))))) = some (r1,r2,r3,r4,r5,r6):=h
 clear h
 obtain ⟨sK,sG⟩ : ∃ y_ : List (S43),y_ = (([(⟨(⟨#[99]⟩ : ByteArray),(⟨#[110,103,105,110,120]⟩ : ByteArray),([] : List ByteArray),([] : List (S46)),0,0,([] : List (S82))⟩ : S43)] : List (S43))):=⟨_,rfl⟩
 replace H : (some ((⟨#[119,101,98]⟩ : ByteArray),(⟨#[]⟩ : ByteArray),0,0,false,sK)) = some (r1,r2,r3,r4,r5,r6):=by first|(rw [sG];with_reducible exact H)|(have sP:=(Option.bind_some _ _).symm.trans H;rw [sG];with_reducible exact sP)|(have sP:=(Option.bind_some _ _).symm.trans H;with_reducible exact sP)|with_reducible exact H|(rw [sG];exact H)|exact H
 have sI:=Aside0.mk sG
 clear sG
 simp only [Option.some.injEq,Prod.mk.injEq] at H
 obtain ⟨rfl,rfl,rfl,rfl,rfl,rfl⟩:=H
 go_enter Tryd.func31,Tryd.ntmps31
 go_wp2_with (first|((with_reducible refine dN (N:=0) rfl ?_);refine eD ?hg (N:=0) ?hd (cs:=#[.string (⟨#[]⟩ : ByteArray),.string (⟨#[]⟩ : ByteArray),.int .i64 0,.int .i64 0,.bool false,.slice none 0 0]) (t:=25) ?hr ?_;(case hd=>rfl);(case hg=>rfl);(case hr=>first|(go_simp;done)|(go_simp;rfl));intro sF hg w1 hbox hb;have sM:=Aside0.mk (aH (by repeat (first|(with_reducible first|exact HB.out|apply ay|apply aj|apply av)|exact HB.out)) hb);have sN:=Aside0.mk (hbox);have sO:=Aside0.mk ((by rw [hg];exact (aU (by repeat (first|(with_reducible first|exact HB.out|apply ay|apply aj|apply av)|exact HB.out))) : w.heap.size ≤ sF));have tL:=Aside0.mk ((by rw [hg];exact (aU (by repeat (first|(with_reducible first|exact HB.out|apply ay|apply aj|apply av)|exact HB.out))) : w.heap.size ≤ sF));clear HB;have HB:=sM;have sD:=sN;have tN:=sO;have sH:=tL;clear sM sN sO tL;clear hb hbox hg)|((with_reducible refine dN (N:=2) rfl ?_);refine Kd.qO k43 _ 43 ?hg (N:=2) ?hd (xs:=([(⟨(⟨#[99]⟩ : ByteArray),(⟨#[110,103,105,110,120]⟩ : ByteArray),([] : List ByteArray),([] : List (S46)),0,0,([] : List (S82))⟩ : S43)] : List (S43))) (inner:=[.string (⟨#[99]⟩ : ByteArray),.string (⟨#[110,103,105,110,120]⟩ : ByteArray),.slice none 0 0,.slice none 0 0,.int .i64 0,.int .i64 0,.slice none 0 0]) (ok:=fun _=>True) (okp:=fun _=>True) ?hr ?hp (fun _ hk=>hk) trivial (Below.refl _ _) (Nat.le_refl _) (by simp) ?_;(case hd=>rfl);(case hg=>rfl);(case hr=>first|(go_simp;done)|(go_simp;rfl));(case hp=>exact (dh.c7 (show Kd.M k43 _ _ _ (⟨(⟨#[99]⟩ : ByteArray),(⟨#[110,103,105,110,120]⟩ : ByteArray),([] : List ByteArray),([] : List (S46)),0,0,([] : List (S82))⟩ : S43) [.string (⟨#[99]⟩ : ByteArray),.string (⟨#[110,103,105,110,120]⟩ : ByteArray),.slice none 0 0,.slice none 0 0,.int .i64 0,.int .i64 0,.slice none 0 0] from (oM _ _ _ (⟨(⟨#[99]⟩ : ByteArray),(⟨#[110,103,105,110,120]⟩ : ByteArray),([] : List ByteArray),([] : List (S46)),0,0,([] : List (S82))⟩ : S43) (Kd.ny _ _ _ _ _) (Kd.ny _ _ _ _ _) (Kd.ny _ _ _ _ _))) (dh.none _ _)));intro tX w2 ho3 hb hg_ hnew_;clear hg_ hnew_;(first|rw [← sI.out] at ho3|(simp only [Int.reduceToNat] at ho3;rw [← sI.out] at ho3));have sM:=Aside0.mk (Kd.fH ho3 (aU (by repeat (first|(with_reducible first|exact HB.out|apply ay|apply aj|apply av|refine aO ?_ sH.out)|exact HB.out))));have sN:=Aside0.mk (bH (g:=sF) (o:=.cells #[.string (⟨#[]⟩ : ByteArray),.string (⟨#[]⟩ : ByteArray),.int .i64 0,.int .i64 0,.bool false,.slice none 0 0] 25 (0,0)) (bk_ sD.out) hb);have sO:=Aside0.mk (aH (by repeat (first|(with_reducible first|exact HB.out|apply ay|apply aj|apply av|refine aO ?_ sH.out)|exact HB.out)) hb);clear sD;clear HB;have sJ:=sM;have sD:=sN;have HB:=sO;clear sM sN sO;clear hb ho3;obtain ⟨tO,tQ,tY⟩:=Kd.fI sJ.out;subst tY;have sQ : w2.cell? ⟨sF,0,none⟩ = some (.string (⟨#[]⟩ : ByteArray)):=(ak sD.out 0).trans rfl;have sS : w2.cell? ⟨sF,1,none⟩ = some (.string (⟨#[]⟩ : ByteArray)):=(ak sD.out 1).trans rfl;have sU : w2.cell? ⟨sF,2,none⟩ = some (.int .i64 0):=(ak sD.out 2).trans rfl;have sV : w2.cell? ⟨sF,3,none⟩ = some (.int .i64 0):=(ak sD.out 3).trans rfl;have sW : w2.cell? ⟨sF,4,none⟩ = some (.bool false):=(ak sD.out 4).trans rfl;have sZ : w2.cell? ⟨sF,5,none⟩ = some (.slice none 0 0):=(ak sD.out 5).trans rfl;have tq:=aA sD.out 0;have tu:=aA sD.out 1;have tC:=aA sD.out 2;have tF:=aA sD.out 3;have tH:=aA sD.out 4;have tJ:=aA sD.out 5))
 refine bodyPost_ret (results_cell_row rfl _ _ sF 25 #[.string (⟨#[119,101,98]⟩ : ByteArray),.string (⟨#[]⟩ : ByteArray),.int .i64 0,.int .i64 0,.bool false,.slice tO sK.length tQ] (0,0) _ rfl (by (with_reducible repeat (first|apply aF|apply aN|apply aI));refine aY (cs:=#[.string (⟨#[119,101,98]⟩ : ByteArray),.string (⟨#[]⟩ : ByteArray),.int .i64 0,.int .i64 0,.bool false,.slice none 0 0]) ?_ 5 _ rfl;(with_reducible repeat (first|apply aF|apply aN|apply aI));refine aY (cs:=#[.string (⟨#[119,101,98]⟩ : ByteArray),.string (⟨#[]⟩ : ByteArray),.int .i64 0,.int .i64 0,.bool false,.slice none 0 0]) ?_ 4 _ rfl;(with_reducible repeat (first|apply aF|apply aN|apply aI));refine aY (cs:=#[.string (⟨#[119,101,98]⟩ : ByteArray),.string (⟨#[]⟩ : ByteArray),.int .i64 0,.int .i64 0,.bool false,.slice none 0 0]) ?_ 3 _ rfl;(with_reducible repeat (first|apply aF|apply aN|apply aI));refine aY (cs:=#[.string (⟨#[119,101,98]⟩ : ByteArray),.string (⟨#[]⟩ : ByteArray),.int .i64 0,.int .i64 0,.bool false,.slice none 0 0]) ?_ 2 _ rfl;(with_reducible repeat (first|apply aF|apply aN|apply aI));refine aY (cs:=#[.string (⟨#[119,101,98]⟩ : ByteArray),.string (⟨#[]⟩ : ByteArray),.int .i64 0,.int .i64 0,.bool false,.slice none 0 0]) ?_ 1 _ rfl;(with_reducible repeat (first|apply aF|apply aN|apply aI));refine aY (cs:=#[.string (⟨#[]⟩ : ByteArray),.string (⟨#[]⟩ : ByteArray),.int .i64 0,.int .i64 0,.bool false,.slice none 0 0]) ?_ 0 _ rfl;(with_reducible repeat (first|apply aF|apply aN|apply aI));exact sD.out) Tryd.underlying25 rfl (by kernel_rfl)) rfl ?_
 exact ⟨_,by first|rfl|(simp [aP,aQ] <;> rfl)|(simp [*,aP,aQ] <;> rfl),by (with_reducible repeat (first|apply Kd.bI|apply Kd.bJ|apply Kd.bS));exact Kd.gF (Kd.cO (p:=⟨sF,5,none⟩) (Kd.cO (p:=⟨sF,4,none⟩) (Kd.cO (p:=⟨sF,3,none⟩) (Kd.cO (p:=⟨sF,2,none⟩) (Kd.cO (p:=⟨sF,1,none⟩) (Kd.cO (p:=⟨sF,0,none⟩) (Kd.fO sJ.out sD.out (by decide)) (fun _ hk=>hk.2) (.string (⟨#[119,101,98]⟩ : ByteArray))) (fun _ hk=>hk.2) (.string (⟨#[]⟩ : ByteArray))) (fun _ hk=>hk.2) (.int .i64 0)) (fun _ hk=>hk.2) (.int .i64 0)) (fun _ hk=>hk.2) (.bool false)) (fun _ hk=>hk.2) (.slice tO sK.length tQ)) (fun _ hk=>trivial),by repeat (first|(with_reducible first|exact HB.out|apply ay|apply aj|apply av|refine aO ?_ sH.out)|exact HB.out)⟩
def iU.f (a0 : Int) : Option (Bool):=if a0 ≥ 56320 then (some (decide (a0 ≤ 57343))) else (some false)
set_option maxHeartbeats 8000000 in
set_option maxRecDepth 100000 in
theorem iU.calls (a0 : Int) (r : Bool) (w : World) (h : iU.f a0 = some r) :
  Calls Tryd.prog 112 #[.int .i32 a0] w fun e w'=>e = .returned (.bool r) ∧ Drawn0 w w':=by
 have H : (if a0 ≥ 56320 then (some (decide (a0 ≤ 57343))) else (some false)) = some r:=h
 clear h
 by_cases c2 : a0 ≥ 56320
 ·rw [if_pos c2] at H
  have c2b0 : decide (56320 ≤ a0) = true:=decide_eq_true c2
  clear c2
  obtain rfl:=Option.some.inj H
  go_enter Tryd.func112,Tryd.ntmps112
  go_wp2
  go_ret
  exact ⟨by first|rfl|(simp;done)|(simp [*];done),by repeat (first|exact Drawn0.refl _|apply Drawn0.step)⟩
 ·rw [if_neg c2] at H
  have c2b0 : decide (56320 ≤ a0) = false:=decide_eq_false c2
  clear c2
  obtain rfl:=Option.some.inj H
  go_enter Tryd.func112,Tryd.ntmps112
  go_wp2
  go_ret
  exact ⟨by first|rfl|(simp;done)|(simp [*];done),by repeat (first|exact Drawn0.refl _|apply Drawn0.step)⟩
def iq.f (a0 : Int) : Option (Bool):=if a0 ≥ 55296 then (some (decide (a0 ≤ 56319))) else (some false)
set_option maxHeartbeats 8000000 in
set_option maxRecDepth 100000 in
theorem iq.calls (a0 : Int) (r : Bool) (w : World) (h : iq.f a0 = some r) :
  Calls Tryd.prog 113 #[.int .i32 a0] w fun e w'=>e = .returned (.bool r) ∧ Drawn0 w w':=by
 have H : (if a0 ≥ 55296 then (some (decide (a0 ≤ 56319))) else (some false)) = some r:=h
 clear h
 by_cases c2 : a0 ≥ 55296
 ·rw [if_pos c2] at H
  have c2b0 : decide (55296 ≤ a0) = true:=decide_eq_true c2
  clear c2
  obtain rfl:=Option.some.inj H
  go_enter Tryd.func113,Tryd.ntmps113
  go_wp2
  go_ret
  exact ⟨by first|rfl|(simp;done)|(simp [*];done),by repeat (first|exact Drawn0.refl _|apply Drawn0.step)⟩
 ·rw [if_neg c2] at H
  have c2b0 : decide (55296 ≤ a0) = false:=decide_eq_false c2
  clear c2
  obtain rfl:=Option.some.inj H
  go_enter Tryd.func113,Tryd.ntmps113
  go_wp2
  go_ret
  exact ⟨by first|rfl|(simp;done)|(simp [*];done),by repeat (first|exact Drawn0.refl _|apply Drawn0.step)⟩
def gN.f (a0 : Int) : Option (Int):=if a0 ≥ 65 then (if a0 ≤ 70 then (some ((a0 + 32) % 256)) else (some a0)) else (some a0)
set_option maxHeartbeats 8000000 in
set_option maxRecDepth 100000 in
theorem gN.calls (a0 : Int) (r : Int) (w : World) (h : gN.f a0 = some r) :
  Calls Tryd.prog 120 #[.int .u8 a0] w fun e w'=>e = .returned (.int .u8 r) ∧ Drawn0 w w':=by
 have H : (if a0 ≥ 65 then (if a0 ≤ 70 then (some ((a0 + 32) % 256)) else (some a0)) else (some a0)) = some r:=h
 clear h
 by_cases c2 : a0 ≥ 65
 ·rw [if_pos c2] at H
  have c2b0 : decide (65 ≤ a0) = true:=decide_eq_true c2
  clear c2
  by_cases c3 : a0 ≤ 70
  ·rw [if_pos c3] at H
   have c3b0 : decide (a0 ≤ 70) = true:=decide_eq_true c3
   clear c3
   obtain rfl:=Option.some.inj H
   go_enter Tryd.func120,Tryd.ntmps120
   go_wp2
   go_ret
   exact ⟨by first|rfl|(simp;done)|(simp [*];done),by repeat (first|exact Drawn0.refl _|apply Drawn0.step)⟩
  ·rw [if_neg c3] at H
   have c3b0 : decide (a0 ≤ 70) = false:=decide_eq_false c3
   clear c3
   obtain rfl:=Option.some.inj H
   go_enter Tryd.func120,Tryd.ntmps120
   go_wp2
   go_ret
   exact ⟨by first|rfl|(simp;done)|(simp [*];done),by repeat (first|exact Drawn0.refl _|apply Drawn0.step)⟩
 ·rw [if_neg c2] at H
  have c2b0 : decide (65 ≤ a0) = false:=decide_eq_false c2
  clear c2
  obtain rfl:=Option.some.inj H
  go_enter Tryd.func120,Tryd.ntmps120
  go_wp2
  go_ret
  exact ⟨by first|rfl|(simp;done)|(simp [*];done),by repeat (first|exact Drawn0.refl _|apply Drawn0.step)⟩
end Go.Proofs.YtpflenjhmeaeoaaDoor.GUt
