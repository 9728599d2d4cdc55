/- Written by this session's own program (wip/gen.py) out of the translation: plain Lean functions of the Go functions, and proofs that the calls come to their answers. No conditions beside those in the statements. -/
import Derived.Test.YtpflenjhmeaeoaaDoorCp
import Derived.Test.YtpflenjhmeaeoaaDoorGUtx0
namespace Go.Proofs.YtpflenjhmeaeoaaDoor.GUt
open Go.RowKit Go.Proofs.YtpflenjhmeaeoaaDoorW.PrintWords Go.Proofs.YtpflenjhmeaeoaaDoorW.PrintLast Go.Proofs.YtpflenjhmeaeoaaDoorW.PrintMore
attribute [local go_sem] fC fD gu gD eP eT fE fF
set_option linter.unusedVariables false
set_option linter.unusedSimpArgs false
def bX.f  : Option (ByteArray × ByteArray × Int × Int × Bool × (List (S43))):=some ((⟨#[119,101,98]⟩ : ByteArray),(⟨#[]⟩ : ByteArray),0,0,false,(([(⟨(⟨#[99]⟩ : ByteArray),(⟨#[110,103,105,110,120]⟩ : ByteArray),([] : List ByteArray),([] : List (S46)),0,0,([] : List (S82))⟩ : S43)] : List (S43))))
set_option maxHeartbeats 8000000 in
set_option maxRecDepth 100000 in
theorem bX.calls  (r1 : ByteArray) (r2 : ByteArray) (r3 : Int) (r4 : Int) (r5 : Bool) (r6 : List (S43)) (w : World) (h : bX.f  = some (r1,r2,r3,r4,r5,r6)) :
  Calls Tryd.prog 31 #[] w fun e w'=>∃ BZ : Value,e = .returned (.agg #[.string r1,.string r2,.int .i64 r3,.int .i64 r4,.bool r5,BZ]) ∧ Kd.S k43 43 w' w.heap.size (fun _=>True) BZ r6 ∧ Below w.heap.size w w':=by
 have Cj:=Tryd.underlying25
 have Ck:=Tryd.underlying43
 have HB:=Aside0.mk (Below.refl w.heap.size w)
 have H : (some ((⟨#[119,101,98]⟩ : ByteArray),(⟨#[]⟩ : ByteArray),0,0,false,(([(⟨(⟨#[99]⟩ : ByteArray),(⟨#[110,103,105,110,120]⟩ : ByteArray),([] : List ByteArray),([] : List (S46)),0,0,([] : List (S82))⟩ : S43)] : List (S43))))) = some (r1,r2,r3,r4,r5,r6):=h
 clear h
 obtain ⟨AY,Aq⟩ : ∃ y_ : List (S43),y_ = (([(⟨(⟨#[99]⟩ : ByteArray),(⟨#[110,103,105,110,120]⟩ : ByteArray),([] : List ByteArray),([] : List (S46)),0,0,([] : List (S82))⟩ : S43)] : List (S43))):=⟨_,rfl⟩
 replace H : (some ((⟨#[119,101,98]⟩ : ByteArray),(⟨#[]⟩ : ByteArray),0,0,false,AY)) = some (r1,r2,r3,r4,r5,r6):=by first|(rw [Aq];with_reducible exact H)|(have Bw:=(Option.bind_some _ _).symm.trans H;rw [Aq];with_reducible exact Bw)|(have Bw:=(Option.bind_some _ _).symm.trans H;with_reducible exact Bw)|with_reducible exact H|(rw [Aq];exact H)|exact H
 have AQ:=Aside0.mk Aq
 clear Aq
 simp only [Option.some.injEq,Prod.mk.injEq] at H
 obtain ⟨rfl,rfl,rfl,rfl,rfl,rfl⟩:=H
 go_enter Tryd.func31,Tryd.ntmps31
 go_wp2_with (first|((with_reducible refine dA (N:=0) rfl ?_);refine dG ?hg (N:=0) ?hd (cs:=#[.string (⟨#[]⟩ : ByteArray),.string (⟨#[]⟩ : ByteArray),.int .i64 0,.int .i64 0,.bool false,.slice none 0 0]) (t:=25) ?hr ?_;(case hd=>rfl);(case hg=>rfl);(case hr=>first|(go_simp;done)|(go_simp;rfl));intro Ao hg w1 hbox hb;have Bj:=Aside0.mk (aJ hb_ hb);have Bl:=Aside0.mk (hbox);have Bn:=Aside0.mk ((by rw [hg];exact (aY hb_) : w.heap.size ≤ Ao));have Ca:=Aside0.mk ((by rw [hg];exact (aY hb_) : w.heap.size ≤ Ao));clear HB;have HB:=Bj;have Am:=Bl;have Cb:=Bn;have Cc:=Ca;clear Bj Bl Bn Ca;clear hb hbox hg)|((with_reducible refine dA (N:=2) rfl ?_);refine Kd.zq k43 _ 43 ?hg (N:=2) ?hd (xs:=([(⟨(⟨#[99]⟩ : ByteArray),(⟨#[110,103,105,110,120]⟩ : ByteArray),([] : List ByteArray),([] : List (S46)),0,0,([] : List (S82))⟩ : S43)] : List (S43))) (inner:=[.string (⟨#[99]⟩ : ByteArray),.string (⟨#[110,103,105,110,120]⟩ : ByteArray),.slice none 0 0,.slice none 0 0,.int .i64 0,.int .i64 0,.slice none 0 0]) (ok:=fun _=>True) (okp:=fun _=>True) ?hr ?hp (fun _ hk=>hk) trivial (Below.refl _ _) (Nat.le_refl _) (by simp) ?_;(case hd=>rfl);(case hg=>rfl);(case hr=>first|(go_simp;done)|(go_simp;rfl));(case hp=>exact (dX.c7 (show Kd.M k43 _ _ _ (⟨(⟨#[99]⟩ : ByteArray),(⟨#[110,103,105,110,120]⟩ : ByteArray),([] : List ByteArray),([] : List (S46)),0,0,([] : List (S82))⟩ : S43) [.string (⟨#[99]⟩ : ByteArray),.string (⟨#[110,103,105,110,120]⟩ : ByteArray),.slice none 0 0,.slice none 0 0,.int .i64 0,.int .i64 0,.slice none 0 0] from (wV _ _ _ (⟨(⟨#[99]⟩ : ByteArray),(⟨#[110,103,105,110,120]⟩ : ByteArray),([] : List ByteArray),([] : List (S46)),0,0,([] : List (S82))⟩ : S43) (Kd.lT _ _ _ _ _) (Kd.lT _ _ _ _ _) (Kd.lT _ _ _ _ _))) (dX.none _ _)));intro v183 w2 ho3 hb hg_ hnew_;clear hg_ hnew_;(first|rw [← AQ.out] at ho3|(simp only [Int.reduceToNat] at ho3;rw [← AQ.out] at ho3));have Bj:=Aside0.mk (Kd.qg ho3 (aY hb_));have Bl:=Aside0.mk (aM (g:=Ao) (o:=.cells #[.string (⟨#[]⟩ : ByteArray),.string (⟨#[]⟩ : ByteArray),.int .i64 0,.int .i64 0,.bool false,.slice none 0 0] 25 (0,0)) (bk_ Am.out) hb);have Bn:=Aside0.mk (aJ hb_ hb);clear Am;clear HB;have AU:=Bj;have Am:=Bl;have HB:=Bn;clear Bj Bl Bn;clear hb ho3;obtain ⟨Ce,Cg,Cm⟩:=Kd.qh AU.out;subst Cm;have Bz : w2.cell? ⟨Ao,0,none⟩ = some (.string (⟨#[]⟩ : ByteArray)):=(ah Am.out 0).trans rfl;have BD : w2.cell? ⟨Ao,1,none⟩ = some (.string (⟨#[]⟩ : ByteArray)):=(ah Am.out 1).trans rfl;have BF : w2.cell? ⟨Ao,2,none⟩ = some (.int .i64 0):=(ah Am.out 2).trans rfl;have BG : w2.cell? ⟨Ao,3,none⟩ = some (.int .i64 0):=(ah Am.out 3).trans rfl;have BH : w2.cell? ⟨Ao,4,none⟩ = some (.bool false):=(ah Am.out 4).trans rfl;have BI : w2.cell? ⟨Ao,5,none⟩ = some (.slice none 0 0):=(ah Am.out 5).trans rfl;have BJ:=au Am.out 0;have BK:=au Am.out 1;have BL:=au Am.out 2;have BN:=au Am.out 3;have BO:=au Am.out 4;have BP:=au Am.out 5))
 refine bodyPost_ret (results_cell_row rfl _ _ Ao 25 #[.string (⟨#[119,101,98]⟩ : ByteArray),.string (⟨#[]⟩ : ByteArray),.int .i64 0,.int .i64 0,.bool false,.slice Ce AY.length Cg] (0,0) _ rfl (by (with_reducible repeat (first|apply aC|apply aG|apply aH));refine bR (cs:=#[.string (⟨#[119,101,98]⟩ : ByteArray),.string (⟨#[]⟩ : ByteArray),.int .i64 0,.int .i64 0,.bool false,.slice none 0 0]) ?_ 5 _ rfl;(with_reducible repeat (first|apply aC|apply aG|apply aH));refine bR (cs:=#[.string (⟨#[119,101,98]⟩ : ByteArray),.string (⟨#[]⟩ : ByteArray),.int .i64 0,.int .i64 0,.bool false,.slice none 0 0]) ?_ 4 _ rfl;(with_reducible repeat (first|apply aC|apply aG|apply aH));refine bR (cs:=#[.string (⟨#[119,101,98]⟩ : ByteArray),.string (⟨#[]⟩ : ByteArray),.int .i64 0,.int .i64 0,.bool false,.slice none 0 0]) ?_ 3 _ rfl;(with_reducible repeat (first|apply aC|apply aG|apply aH));refine bR (cs:=#[.string (⟨#[119,101,98]⟩ : ByteArray),.string (⟨#[]⟩ : ByteArray),.int .i64 0,.int .i64 0,.bool false,.slice none 0 0]) ?_ 2 _ rfl;(with_reducible repeat (first|apply aC|apply aG|apply aH));refine bR (cs:=#[.string (⟨#[119,101,98]⟩ : ByteArray),.string (⟨#[]⟩ : ByteArray),.int .i64 0,.int .i64 0,.bool false,.slice none 0 0]) ?_ 1 _ rfl;(with_reducible repeat (first|apply aC|apply aG|apply aH));refine bR (cs:=#[.string (⟨#[]⟩ : ByteArray),.string (⟨#[]⟩ : ByteArray),.int .i64 0,.int .i64 0,.bool false,.slice none 0 0]) ?_ 0 _ rfl;(with_reducible repeat (first|apply aC|apply aG|apply aH));exact Am.out) Tryd.underlying25 rfl (by kernel_rfl)) rfl ?_
 exact ⟨_,by first|rfl|(simp [aV,aW] <;> rfl)|(simp [*,aV,aW] <;> rfl),by (with_reducible repeat (first|apply Kd.iY|apply Kd.iZ|apply Kd.jF));exact Kd.rF (Kd.ko (p:=⟨Ao,5,none⟩) (Kd.ko (p:=⟨Ao,4,none⟩) (Kd.ko (p:=⟨Ao,3,none⟩) (Kd.ko (p:=⟨Ao,2,none⟩) (Kd.ko (p:=⟨Ao,1,none⟩) (Kd.ko (p:=⟨Ao,0,none⟩) (Kd.sG AU.out Am.out (by decide)) (fun _ hk=>hk.2) (.string (⟨#[119,101,98]⟩ : ByteArray))) (fun _ hk=>hk.2) (.string (⟨#[]⟩ : ByteArray))) (fun _ hk=>hk.2) (.int .i64 0)) (fun _ hk=>hk.2) (.int .i64 0)) (fun _ hk=>hk.2) (.bool false)) (fun _ hk=>hk.2) (.slice Ce AY.length Cg)) (fun _ hk=>trivial),hb_⟩
def aN.l0 : Nat → List Int → Int → Int → Option (Int)
 | 0,_,_,_=>none
 | k + 1,x5,x6,x7=>if x7 < x6 then (if 0 ≤ x7 then (if x7 < (x5.length : Int) then (if (rd x5 x7) = 0 then (aN.l0 k x5 x6 (wrap64 (x7 + 1))) else (some (rd x5 x7))) else (none)) else (none)) else (some 0)
def aN.f (k : Nat) (l0 : List Int) : Option (Int):=aN.l0 k l0 (l0.length : Int) 0
theorem aN.dV : ∀ k,(∀ y0 y1 y2,LeO (aN.l0 k y0 y1 y2) (aN.l0 (k + 1) y0 y1 y2))
 | 0=>fun _ _ _ r h=>by simp [aN.l0] at h
 | k + 1=>by
  have AA:=aN.dV k
  ·intro y0 y1 y2
   unfold aN.l0
   repeat' first
   | (with_reducible exact AA _ _ _)
   | (with_reducible exact LeO.refl _)
   | (with_reducible exact LeO.none _)
   | (with_reducible refine LeO.ite ?_ ?_)
   | (with_reducible refine LeO.bind ?_ (fun _=>?_))
   | exact AA _ _ _
   | exact LeO.none _
   | refine LeO.ite ?_ ?_
   | refine LeO.bind ?_ (fun _=>?_)
theorem aN.mono : ∀ a0 k,LeO (aN.f k a0) (aN.f (k + 1) a0):=by
 intro a0 k
 have AA:=aN.dV k
 unfold aN.f
 repeat' first
   | (with_reducible exact AA _ _ _)
   | (with_reducible exact LeO.refl _)
   | (with_reducible exact LeO.none _)
   | (with_reducible refine LeO.ite ?_ ?_)
   | (with_reducible refine LeO.bind ?_ (fun _=>?_))
   | exact AA _ _ _
   | exact LeO.none _
   | refine LeO.ite ?_ ?_
   | refine LeO.bind ?_ (fun _=>?_)
set_option maxHeartbeats 8000000 in
set_option maxRecDepth 100000 in
theorem aN.calls (k : Nat) (A0 : Option Addr) (c0 : Nat) (l0 : List Int) (r : Int) (w : World) (hr0 : Kd.C (Kd.int .i64) w A0 l0.length l0) (hc0 : l0.length ≤ c0) (h : aN.f k l0 = some r) :
  Calls Tryd.prog 34 #[.slice A0 l0.length c0] w fun e w'=>e = .returned (.int .i64 r) ∧ Drawn0 w w':=by
 have Ch:=Aside0.mk hr0
 have Cn:=Aside0.mk hc0
 clear hr0 hc0
 have H : (aN.l0 k l0 (l0.length : Int) 0) = some r:=h
 clear h
 have H':=Aside0.mk H
 clear H
 go_enter Tryd.func34,Tryd.ntmps34
 go_wp2
 go_loopg [7] k (fun kq v7 w'=>∃ (Ap : Int),v7 = .int .i64 Ap ∧ Aside0 (aN.l0 kq l0 (l0.length : Int) Ap = some r) ∧ Aside0 (kq ≤ k) ∧ Drawn0 w w')
 case atStart=>exact ⟨(0),(by first|rfl|(simp;done)|(simp [*];done)|exact congrArg Value.bool (dh _)|exact congrArg Value.bool (dh _).symm),H',⟨Nat.le_refl _⟩,by repeat (first|exact Drawn0.refl _|apply Drawn0.step)⟩
 case round =>
  clear H'
  obtain ⟨Ap,rfl,HA,Ci,⟨m1,rfl⟩⟩:=hrel
  cases gk with
  | zero=>exact absurd HA.out (by simp [aN.l0])
  | succ k1 =>
   have H:=HA.out
   clear HA
   simp only [aN.l0] at H
   by_cases c2 : Ap < (l0.length : Int)
   ·rw [if_pos c2] at H
    have c2b0 : decide (Ap < (l0.length : Int)) = true:=decide_eq_true c2
    clear c2
    by_cases c3 : 0 ≤ Ap
    ·rw [if_pos c3] at H
     have c3b0 : decide (0 ≤ Ap) = true:=decide_eq_true c3
     clear c3
     by_cases c4 : Ap < (l0.length : Int)
     ·rw [if_pos c4] at H
      have c4b0 : decide (Ap < (l0.length : Int)) = true:=decide_eq_true c4
      clear c4
      by_cases c5 : (rd l0 Ap) = 0
      ·rw [if_pos c5] at H
       have c5b0 : ((rd l0 Ap) == 0) = true:=beq_iff_eq.mpr c5
       have c5b1 : ((rd l0 Ap) != 0) = false:=bne_eq_false_iff_eq.mpr c5
       clear c5
       have H':=Aside0.mk H
       clear H
       have Aw : 0 ≤ (Ap : Int):=of_decide_eq_true (by first|(with_reducible assumption)|assumption)
       have Ay : Ap < (l0.length : Int):=of_decide_eq_true (by first|(with_reducible assumption)|assumption)
       obtain ⟨Bo,e185,AJ⟩:=Kd.uK Ch.out Ap Aw Ay
       cases e185
       replace Aw:=eq_true Aw
       replace Ay:=eq_true Ay
       go_wp2
       go_roundg k1
       case measure=>have:=Ci.out;omega
       case rel=>exact ⟨(wrap64 (Ap + 1)),(by first|rfl|(simp;done)|(simp [*];done)|exact congrArg Value.bool (dh _)|exact congrArg Value.bool (dh _).symm),H',⟨by have:=Ci.out;omega⟩,by repeat (first|exact Drawn0.refl _|apply Drawn0.step)⟩
      ·rw [if_neg c5] at H
       have c5b0 : ((rd l0 Ap) == 0) = false:=beq_eq_false_iff_ne.mpr c5
       have c5b1 : ((rd l0 Ap) != 0) = true:=bne_iff_ne.mpr c5
       obtain rfl:=Option.some.inj H
       have Aw : 0 ≤ (Ap : Int):=of_decide_eq_true (by first|(with_reducible assumption)|assumption)
       have Ay : Ap < (l0.length : Int):=of_decide_eq_true (by first|(with_reducible assumption)|assumption)
       obtain ⟨Bo,e185,AJ⟩:=Kd.uK Ch.out Ap Aw Ay
       cases e185
       replace Aw:=eq_true Aw
       replace Ay:=eq_true Ay
       go_wp2
       go_ret
       exact ⟨by first|rfl|(simp;done)|(simp [*];done),by repeat (first|exact Drawn0.refl _|apply Drawn0.step)⟩
     ·rw [if_neg c4] at H
      exact absurd H (by simp)
    ·rw [if_neg c3] at H
     exact absurd H (by simp)
   ·rw [if_neg c2] at H
    have c2b0 : decide (Ap < (l0.length : Int)) = false:=decide_eq_false c2
    clear c2
    obtain rfl:=Option.some.inj H
    go_wp2
    go_ret
    exact ⟨by first|rfl|(simp;done)|(simp [*];done),by repeat (first|exact Drawn0.refl _|apply Drawn0.step)⟩
def aD.f (a0 : Bool) (a1 : Int) : Option (Int):=if a0 = true then (some a1) else (some 0)
set_option maxHeartbeats 8000000 in
set_option maxRecDepth 100000 in
theorem aD.calls (a0 : Bool) (a1 : Int) (r : Int) (w : World) (h : aD.f a0 a1 = some r) :
  Calls Tryd.prog 35 #[.bool a0,.int .i64 a1] w fun e w'=>e = .returned (.int .i64 r) ∧ Drawn0 w w':=by
 have H : (if a0 = true then (some a1) else (some 0)) = some r:=h
 clear h
 by_cases c3 : a0 = true
 ·subst c3
  have H1 : (some a1) = some r:=by rw [if_pos rfl] at H;exact H
  clear H
  have H:=H1
  clear H1
  obtain rfl:=Option.some.inj H
  go_enter Tryd.func35,Tryd.ntmps35
  go_wp2
  go_ret
  exact ⟨by first|rfl|(simp;done)|(simp [*];done),by repeat (first|exact Drawn0.refl _|apply Drawn0.step)⟩
 ·replace c3:=Bool.eq_false_iff.mpr c3
  subst c3
  have H1 : (some 0) = some r:=by rw [if_neg (show ¬ (false = true) by decide)] at H;exact H
  clear H
  have H:=H1
  clear H1
  obtain rfl:=Option.some.inj H
  go_enter Tryd.func35,Tryd.ntmps35
  go_wp2
  go_ret
  exact ⟨by first|rfl|(simp;done)|(simp [*];done),by repeat (first|exact Drawn0.refl _|apply Drawn0.step)⟩
def eu.f (a0 : Int) : Option (Bool):=if a0 ≥ 97 then (some (decide (a0 ≤ 122))) else (some false)
set_option maxHeartbeats 8000000 in
set_option maxRecDepth 100000 in
theorem eu.calls (a0 : Int) (r : Bool) (w : World) (h : eu.f a0 = some r) :
  Calls Tryd.prog 63 #[.int .u8 a0] w fun e w'=>e = .returned (.bool r) ∧ Drawn0 w w':=by
 have H : (if a0 ≥ 97 then (some (decide (a0 ≤ 122))) else (some false)) = some r:=h
 clear h
 by_cases c2 : a0 ≥ 97
 ·rw [if_pos c2] at H
  have c2b0 : decide (97 ≤ a0) = true:=decide_eq_true c2
  clear c2
  obtain rfl:=Option.some.inj H
  go_enter Tryd.func63,Tryd.ntmps63
  go_wp2
  go_ret
  exact ⟨by first|rfl|(simp;done)|(simp [*];done),by repeat (first|exact Drawn0.refl _|apply Drawn0.step)⟩
 ·rw [if_neg c2] at H
  have c2b0 : decide (97 ≤ a0) = false:=decide_eq_false c2
  clear c2
  obtain rfl:=Option.some.inj H
  go_enter Tryd.func63,Tryd.ntmps63
  go_wp2
  go_ret
  exact ⟨by first|rfl|(simp;done)|(simp [*];done),by repeat (first|exact Drawn0.refl _|apply Drawn0.step)⟩
def dK.f (a0 : Int) : Option (Bool):=if a0 ≥ 48 then (some (decide (a0 ≤ 57))) else (some false)
set_option maxHeartbeats 8000000 in
set_option maxRecDepth 100000 in
theorem dK.calls (a0 : Int) (r : Bool) (w : World) (h : dK.f a0 = some r) :
  Calls Tryd.prog 64 #[.int .u8 a0] w fun e w'=>e = .returned (.bool r) ∧ Drawn0 w w':=by
 have H : (if a0 ≥ 48 then (some (decide (a0 ≤ 57))) else (some false)) = some r:=h
 clear h
 by_cases c2 : a0 ≥ 48
 ·rw [if_pos c2] at H
  have c2b0 : decide (48 ≤ a0) = true:=decide_eq_true c2
  clear c2
  obtain rfl:=Option.some.inj H
  go_enter Tryd.func64,Tryd.ntmps64
  go_wp2
  go_ret
  exact ⟨by first|rfl|(simp;done)|(simp [*];done),by repeat (first|exact Drawn0.refl _|apply Drawn0.step)⟩
 ·rw [if_neg c2] at H
  have c2b0 : decide (48 ≤ a0) = false:=decide_eq_false c2
  clear c2
  obtain rfl:=Option.some.inj H
  go_enter Tryd.func64,Tryd.ntmps64
  go_wp2
  go_ret
  exact ⟨by first|rfl|(simp;done)|(simp [*];done),by repeat (first|exact Drawn0.refl _|apply Drawn0.step)⟩
mutual
def bg.j0 : Nat → ByteArray → Bool → Option (Bool)
 | 0,_,_=>none
 | k + 1,x0,x23=>if x23 = true then (some false) else (bg.l0 k x0 (x0.size : Int) 0)
def bg.l0 : Nat → ByteArray → Int → Int → Option (Bool)
 | 0,_,_,_=>none
 | k + 1,x0,x25,AL=>if AL < x25 then (if 0 ≤ AL then (if AL < (x0.size : Int) then ((eu.f (bt x0 AL)).bind fun AO=>(if AO = true then (bg.l0 k x0 x25 (wrap64 (AL + 1))) else ((dK.f (bt x0 AL)).bind fun Au=>(if Au = true then (bg.l0 k x0 x25 (wrap64 (AL + 1))) else (if (bt x0 AL) = 45 then (bg.l0 k x0 x25 (wrap64 (AL + 1))) else (some false)))))) else (none)) else (none)) else (some true)
end
def bg.f (k : Nat) (a0 : ByteArray) : Option (Bool):=if a0.toList = ([] : List UInt8) then (bg.j0 k a0 true) else (if (a0.size : Int) > 63 then (bg.j0 k a0 true) else (if 0 < (a0.size : Int) then (if (bt a0 0) = 45 then (bg.j0 k a0 true) else (if 0 ≤ (wrap64 ((a0.size : Int) - 1)) then (if (wrap64 ((a0.size : Int) - 1)) < (a0.size : Int) then (bg.j0 k a0 ((bt a0 (wrap64 ((a0.size : Int) - 1))) == 45)) else (none)) else (none))) else (none)))
theorem bg.dV : ∀ k,(∀ y0 y1,LeO (bg.j0 k y0 y1) (bg.j0 (k + 1) y0 y1)) ∧ (∀ y0 y1 y2,LeO (bg.l0 k y0 y1 y2) (bg.l0 (k + 1) y0 y1 y2))
 | 0=>⟨fun _ _ r h=>by simp [bg.j0] at h,fun _ _ _ r h=>by simp [bg.l0] at h⟩
 | k + 1=>by
  obtain ⟨AA,ih1⟩:=bg.dV k
  refine ⟨?_,?_⟩
  ·intro y0 y1
   unfold bg.j0
   repeat' first
   | (with_reducible exact AA _ _)
   | (with_reducible exact ih1 _ _ _)
   | (with_reducible exact LeO.refl _)
   | (with_reducible exact LeO.none _)
   | (with_reducible refine LeO.ite ?_ ?_)
   | (with_reducible refine LeO.bind ?_ (fun _=>?_))
   | exact AA _ _
   | exact ih1 _ _ _
   | exact LeO.none _
   | refine LeO.ite ?_ ?_
   | refine LeO.bind ?_ (fun _=>?_)
  ·intro y0 y1 y2
   unfold bg.l0
   repeat' first
   | (with_reducible exact AA _ _)
   | (with_reducible exact ih1 _ _ _)
   | (with_reducible exact LeO.refl _)
   | (with_reducible exact LeO.none _)
   | (with_reducible refine LeO.ite ?_ ?_)
   | (with_reducible refine LeO.bind ?_ (fun _=>?_))
   | exact AA _ _
   | exact ih1 _ _ _
   | exact LeO.none _
   | refine LeO.ite ?_ ?_
   | refine LeO.bind ?_ (fun _=>?_)
theorem bg.mono : ∀ a0 k,LeO (bg.f k a0) (bg.f (k + 1) a0):=by
 intro a0 k
 obtain ⟨AA,ih1⟩:=bg.dV k
 unfold bg.f
 repeat' first
   | (with_reducible exact AA _ _)
   | (with_reducible exact ih1 _ _ _)
   | (with_reducible exact LeO.refl _)
   | (with_reducible exact LeO.none _)
   | (with_reducible refine LeO.ite ?_ ?_)
   | (with_reducible refine LeO.bind ?_ (fun _=>?_))
   | exact AA _ _
   | exact ih1 _ _ _
   | exact LeO.none _
   | refine LeO.ite ?_ ?_
   | refine LeO.bind ?_ (fun _=>?_)
set_option maxHeartbeats 8000000 in
set_option maxRecDepth 100000 in
theorem bg.calls (k : Nat) (a0 : ByteArray) (r : Bool) (w : World) (h : bg.f k a0 = some r) :
  Calls Tryd.prog 37 #[.string a0] w fun e w'=>e = .returned (.bool r) ∧ Drawn0 w w':=by
 have H : (if a0.toList = ([] : List UInt8) then (bg.j0 k a0 true) else (if (a0.size : Int) > 63 then (bg.j0 k a0 true) else (if 0 < (a0.size : Int) then (if (bt a0 0) = 45 then (bg.j0 k a0 true) else (if 0 ≤ (wrap64 ((a0.size : Int) - 1)) then (if (wrap64 ((a0.size : Int) - 1)) < (a0.size : Int) then (bg.j0 k a0 ((bt a0 (wrap64 ((a0.size : Int) - 1))) == 45)) else (none)) else (none))) else (none)))) = some r:=h
 clear h
 have BQ:=Aside0.mk H
 clear H
 go_enter Tryd.func37,Tryd.ntmps37
 go_upto_region 1 with (fail)
 go_cut [23] (fun v23 wc=>∃ (kq : Nat) (Az : Bool),v23 = .bool Az ∧ Aside0 (bg.j0 kq a0 Az = some r) ∧ Aside0 (kq ≤ k) ∧ Drawn0 w wc)
 case first =>
  have H:=BQ.out
  clear BQ
  by_cases c3 : a0.toList = ([] : List UInt8)
  ·rw [if_pos c3] at H
   have c3b0 : (a0.toList == ([] : List UInt8)) = true:=beq_iff_eq.mpr c3
   have c3b1 : (a0.toList != ([] : List UInt8)) = false:=bne_eq_false_iff_eq.mpr c3
   clear c3
   (first|rw [c3b0]|(simp only [bH,bI];rw [c3b0])|skip)
   have H':=Aside0.mk H
   clear H
   go_wp2
   go_meet
   case rel=>exact ⟨_,(true),(by first|rfl|(simp;done)|(simp [*];done)|exact congrArg Value.bool (dh _)|exact congrArg Value.bool (dh _).symm),H',⟨by first|omega|exact Nat.le_refl _⟩,by repeat (first|exact Drawn0.refl _|apply Drawn0.step)⟩
  ·rw [if_neg c3] at H
   have c3b0 : (a0.toList == ([] : List UInt8)) = false:=beq_eq_false_iff_ne.mpr c3
   have c3b1 : (a0.toList != ([] : List UInt8)) = true:=bne_iff_ne.mpr c3
   (first|rw [c3b0]|(simp only [bH,bI];rw [c3b0])|skip)
   by_cases c4 : (a0.size : Int) > 63
   ·rw [if_pos c4] at H
    have c4b0 : decide (63 < (a0.size : Int)) = true:=decide_eq_true c4
    have c4b1 : decide (63 < a0.size) = true:=decide_eq_true (by omega)
    clear c4
    have H':=Aside0.mk H
    clear H
    go_wp2
    go_meet
    case rel=>exact ⟨_,(true),(by first|rfl|(simp;done)|(simp [*];done)|exact congrArg Value.bool (dh _)|exact congrArg Value.bool (dh _).symm),H',⟨by first|omega|exact Nat.le_refl _⟩,by repeat (first|exact Drawn0.refl _|apply Drawn0.step)⟩
   ·rw [if_neg c4] at H
    have c4b0 : decide (63 < (a0.size : Int)) = false:=decide_eq_false c4
    have c4b1 : decide (63 < a0.size) = false:=decide_eq_false (by omega)
    clear c4
    by_cases c5 : 0 < (a0.size : Int)
    ·rw [if_pos c5] at H
     have c5b0 : decide (0 < (a0.size : Int)) = true:=decide_eq_true c5
     have c5b1 : decide (0 < a0.size) = true:=decide_eq_true (by omega)
     clear c5
     by_cases c7 : (bt a0 0) = 45
     ·rw [if_pos c7] at H
      have c7b0 : ((bt a0 0) == 45) = true:=beq_iff_eq.mpr c7
      have c7b1 : ((bt a0 0) != 45) = false:=bne_eq_false_iff_eq.mpr c7
      clear c7
      have H':=Aside0.mk H
      clear H
      have p6 : 0 ≤ (0 : Int):=(by omega)
      have q6 : 0 < a0.size:=(by have : (0 : Int) < (a0.size : Int):=of_decide_eq_true (by first|(with_reducible assumption)|assumption);omega)
      have hx6 : ∀ h : 0 < a0.size,((a0[0]'h).toNat : Int) = bt a0 0:=eG a0 0
      clear p6
      have BR : (0 < (a0.size : Int)) = True:=eq_true (of_decide_eq_true (by first|(with_reducible assumption)|assumption))
      replace q6:=eq_true q6
      go_wp2
      go_meet
      case rel=>exact ⟨_,(true),(by first|rfl|(simp;done)|(simp [*];done)|exact congrArg Value.bool (dh _)|exact congrArg Value.bool (dh _).symm),H',⟨by first|omega|exact Nat.le_refl _⟩,by repeat (first|exact Drawn0.refl _|apply Drawn0.step)⟩
     ·rw [if_neg c7] at H
      have c7b0 : ((bt a0 0) == 45) = false:=beq_eq_false_iff_ne.mpr c7
      have c7b1 : ((bt a0 0) != 45) = true:=bne_iff_ne.mpr c7
      obtain ⟨AB,AP⟩ : ∃ j_ : Int,(wrap64 ((a0.size : Int) - 1)) = j_:=⟨_,rfl⟩
      replace H : (if 0 ≤ (AB) then (if (AB) < (a0.size : Int) then (bg.j0 k a0 ((bt a0 (AB)) == 45)) else (none)) else (none)) = some r:=by first|(rw [AP] at H;exact H)|(simp only [AP] at H ⊢;exact H)
      have hji8w : (IntKind.i64.wrap ((a0.size : Int) - 1)) = AB:=(bH _).trans AP
      by_cases c9 : 0 ≤ (AB)
      ·rw [if_pos c9] at H
       have c9b0 : decide (0 ≤ (AB)) = true:=decide_eq_true c9
       clear c9
       by_cases c10 : (AB) < (a0.size : Int)
       ·rw [if_pos c10] at H
        have c10b0 : decide ((AB) < (a0.size : Int)) = true:=decide_eq_true c10
        clear c10
        have H':=Aside0.mk H
        clear H
        have p6 : 0 ≤ (0 : Int):=(by omega)
        have q6 : 0 < a0.size:=(by have : (0 : Int) < (a0.size : Int):=of_decide_eq_true (by first|(with_reducible assumption)|assumption);omega)
        have hx6 : ∀ h : 0 < a0.size,((a0[0]'h).toNat : Int) = bt a0 0:=eG a0 0
        clear p6
        have BR : (0 < (a0.size : Int)) = True:=eq_true (of_decide_eq_true (by first|(with_reducible assumption)|assumption))
        replace q6:=eq_true q6
        have AZ : 0 ≤ ((AB) : Int):=of_decide_eq_true (by first|(with_reducible assumption)|assumption)
        have Bf : (AB) < (a0.size : Int):=of_decide_eq_true (by first|(with_reducible assumption)|assumption)
        have Bp:=eG a0 (AB)
        replace AZ:=eq_true AZ
        replace Bf:=eq_true Bf
        go_wp2
        go_meet
        case rel=>exact ⟨_,(((bt a0 (AB)) == 45)),(by first|rfl|(simp;done)|(simp only [← AP] <;> (first|rfl|simp))|(simp [*];done)|exact congrArg Value.bool (dh _)|exact congrArg Value.bool (dh _).symm),H',⟨by first|omega|exact Nat.le_refl _⟩,by repeat (first|exact Drawn0.refl _|apply Drawn0.step)⟩
       ·rw [if_neg c10] at H
        exact absurd H (by simp)
      ·rw [if_neg c9] at H
       exact absurd H (by simp)
    ·rw [if_neg c5] at H
     exact absurd H (by simp)
 case rest =>
  clear BQ
  try clear c1
  try clear p1
  try clear q1
  try clear hx1
  try clear p2
  try clear c3
  try clear c3b0
  try clear c3b1
  try clear c4
  try clear c4b0
  try clear c4b1
  try clear c5
  try clear c5b0
  try clear c5b1
  try clear p6
  try clear q6
  try clear hx6
  try clear BR
  try clear c7
  try clear c7b0
  try clear c7b1
  try clear c9
  try clear c9b0
  try clear c10
  try clear c10b0
  try clear AZ
  try clear Bf
  try clear Bp
  try clear AZ
  try clear p6
  try clear Bf
  try clear q6
  obtain ⟨kq,Az,rfl,HA,Bg,⟨Co,rfl⟩⟩:=hcut
  cases kq with
  | zero=>exact absurd HA.out (by simp [bg.j0])
  | succ BS =>
   have H:=HA.out
   clear HA
   simp only [bg.j0] at H
   by_cases c12 : Az = true
   ·subst c12
    have H1 : (some false) = some r:=by rw [if_pos rfl] at H;exact H
    clear H
    have H:=H1
    clear H1
    obtain rfl:=Option.some.inj H
    go_wp2
    go_ret
    exact ⟨by first|rfl|(simp;done)|(simp [*];done),by repeat (first|exact Drawn0.refl _|apply Drawn0.step)⟩
   ·replace c12:=Bool.eq_false_iff.mpr c12
    subst c12
    have H1 : (bg.l0 BS a0 (a0.size : Int) 0) = some r:=by rw [if_neg (show ¬ (false = true) by decide)] at H;exact H
    clear H
    have H:=H1
    clear H1
    have H':=Aside0.mk H
    clear H
    go_wp2
    go_loopg [26] BS (fun kq v26 w'=>∃ (Al : Int),v26 = .int .i64 Al ∧ Aside0 (bg.l0 kq a0 (a0.size : Int) Al = some r) ∧ Aside0 (kq ≤ BS) ∧ Drawn0 w w')
    case atStart=>exact ⟨(0),(by first|rfl|(simp;done)|(simp [*];done)|exact congrArg Value.bool (dh _)|exact congrArg Value.bool (dh _).symm),H',⟨Nat.le_refl _⟩,by repeat (first|exact Drawn0.refl _|apply Drawn0.step)⟩
    case round =>
     clear H'
     try clear c1
     try clear p1
     try clear q1
     try clear hx1
     try clear p2
     try clear c3
     try clear c3b0
     try clear c3b1
     try clear c4
     try clear c4b0
     try clear c4b1
     try clear c5
     try clear c5b0
     try clear c5b1
     try clear p6
     try clear q6
     try clear hx6
     try clear BR
     try clear c7
     try clear c7b0
     try clear c7b1
     try clear c9
     try clear c9b0
     try clear c10
     try clear c10b0
     try clear AZ
     try clear Bf
     try clear Bp
     try clear c12
     try clear p1
     try clear AZ
     try clear p2
     try clear p6
     try clear q1
     try clear Bf
     try clear q6
     obtain ⟨Al,rfl,HA,Bh,⟨m2,rfl⟩⟩:=hrel
     cases gk with
     | zero=>exact absurd HA.out (by simp [bg.l0])
     | succ k2 =>
      have H:=HA.out
      clear HA
      simp only [bg.l0] at H
      by_cases c13 : Al < (a0.size : Int)
      ·rw [if_pos c13] at H
       have c13b0 : decide (Al < (a0.size : Int)) = true:=decide_eq_true c13
       clear c13
       by_cases c14 : 0 ≤ Al
       ·rw [if_pos c14] at H
        have c14b0 : decide (0 ≤ Al) = true:=decide_eq_true c14
        clear c14
        by_cases c15 : Al < (a0.size : Int)
        ·rw [if_pos c15] at H
         have c15b0 : decide (Al < (a0.size : Int)) = true:=decide_eq_true c15
         clear c15
         replace H:=Option.bind_eq_some_iff.mp H
         obtain ⟨AO,Bq,H⟩:=H
         replace H : (if AO = true then (bg.l0 k2 a0 (a0.size : Int) (wrap64 (Al + 1))) else ((dK.f (bt a0 Al)).bind fun Au=>(if Au = true then (bg.l0 k2 a0 (a0.size : Int) (wrap64 (Al + 1))) else (if (bt a0 Al) = 45 then (bg.l0 k2 a0 (a0.size : Int) (wrap64 (Al + 1))) else (some false))))) = some r:=H
         have Bv:=Aside0.mk Bq
         clear Bq
         by_cases c18 : AO = true
         ·subst c18
          have H1 : (bg.l0 k2 a0 (a0.size : Int) (wrap64 (Al + 1))) = some r:=by rw [if_pos rfl] at H;exact H
          clear H
          have H:=H1
          clear H1
          have H':=Aside0.mk H
          clear H
          have p16 : 0 ≤ (Al : Int):=of_decide_eq_true (by first|(with_reducible assumption)|assumption)
          have q16 : Al < (a0.size : Int):=of_decide_eq_true (by first|(with_reducible assumption)|assumption)
          have hx16:=eG a0 Al
          replace p16:=eq_true p16
          replace q16:=eq_true q16
          go_wp2_with (first|((with_reducible refine bq (f:=63) rfl ?_);refine cO (some 32) rfl rfl Tryd.func63 (by kernel_rfl) rfl #[.int .u8 (bt a0 Al)] rfl (by (try simp only [List.map_toArray,List.map_cons,List.map_nil]);first|done|rfl|(simp only [List.length_drop,List.length_take];rfl)|(simp (disch:=first|omega|(simp at *;omega)) only [cZ,bS,dQ];rfl)) ?_;(with_reducible refine (eu.calls (bt a0 Al) true _ Bv.out).mono ?_);rintro e w' ⟨rfl,⟨nd,rfl⟩⟩;refine ⟨_,rfl,?_⟩))
          go_roundg k2
          case measure=>have:=Bg.out;have:=Bh.out;omega
          case rel=>exact ⟨(wrap64 (Al + 1)),(by first|rfl|(simp;done)|(simp [*];done)|exact congrArg Value.bool (dh _)|exact congrArg Value.bool (dh _).symm),H',⟨by have:=Bg.out;have:=Bh.out;omega⟩,by repeat (first|exact Drawn0.refl _|apply Drawn0.step)⟩
         ·replace c18:=Bool.eq_false_iff.mpr c18
          subst c18
          have H1 : ((dK.f (bt a0 Al)).bind fun Au=>(if Au = true then (bg.l0 k2 a0 (a0.size : Int) (wrap64 (Al + 1))) else (if (bt a0 Al) = 45 then (bg.l0 k2 a0 (a0.size : Int) (wrap64 (Al + 1))) else (some false)))) = some r:=by rw [if_neg (show ¬ (false = true) by decide)] at H;exact H
          clear H
          have H:=H1
          clear H1
          replace H:=Option.bind_eq_some_iff.mp H
          obtain ⟨Au,Br,H⟩:=H
          replace H : (if Au = true then (bg.l0 k2 a0 (a0.size : Int) (wrap64 (Al + 1))) else (if (bt a0 Al) = 45 then (bg.l0 k2 a0 (a0.size : Int) (wrap64 (Al + 1))) else (some false))) = some r:=H
          have BU:=Aside0.mk Br
          clear Br
          by_cases c21 : Au = true
          ·subst c21
           have H1 : (bg.l0 k2 a0 (a0.size : Int) (wrap64 (Al + 1))) = some r:=by rw [if_pos rfl] at H;exact H
           clear H
           have H:=H1
           clear H1
           have H':=Aside0.mk H
           clear H
           have p16 : 0 ≤ (Al : Int):=of_decide_eq_true (by first|(with_reducible assumption)|assumption)
           have q16 : Al < (a0.size : Int):=of_decide_eq_true (by first|(with_reducible assumption)|assumption)
           have hx16:=eG a0 Al
           replace p16:=eq_true p16
           replace q16:=eq_true q16
           go_wp2_with (first|((with_reducible refine bq (f:=63) rfl ?_);refine cO (some 32) rfl rfl Tryd.func63 (by kernel_rfl) rfl #[.int .u8 (bt a0 Al)] rfl (by (try simp only [List.map_toArray,List.map_cons,List.map_nil]);first|done|rfl|(simp only [List.length_drop,List.length_take];rfl)|(simp (disch:=first|omega|(simp at *;omega)) only [cZ,bS,dQ];rfl)) ?_;(with_reducible refine (eu.calls (bt a0 Al) false _ Bv.out).mono ?_);rintro e w' ⟨rfl,⟨nd,rfl⟩⟩;refine ⟨_,rfl,?_⟩;have AV : 0 ≤ (Al : Int):=of_decide_eq_true (by first|(with_reducible assumption)|assumption);have AX : Al < (a0.size : Int):=of_decide_eq_true (by first|(with_reducible assumption)|assumption);have Bt:=eG a0 Al;replace AV:=eq_true AV;replace AX:=eq_true AX)|(go_at_call 64;(with_reducible refine (dK.calls (bt a0 Al) true _ BU.out).mono ?_);rintro e w' ⟨rfl,⟨nd,rfl⟩⟩))
           go_roundg k2
           case measure=>have:=Bg.out;have:=Bh.out;omega
           case rel=>exact ⟨(wrap64 (Al + 1)),(by first|rfl|(simp;done)|(simp [*];done)|exact congrArg Value.bool (dh _)|exact congrArg Value.bool (dh _).symm),H',⟨by have:=Bg.out;have:=Bh.out;omega⟩,by repeat (first|exact Drawn0.refl _|apply Drawn0.step)⟩
          ·replace c21:=Bool.eq_false_iff.mpr c21
           subst c21
           have H1 : (if (bt a0 Al) = 45 then (bg.l0 k2 a0 (a0.size : Int) (wrap64 (Al + 1))) else (some false)) = some r:=by rw [if_neg (show ¬ (false = true) by decide)] at H;exact H
           clear H
           have H:=H1
           clear H1
           by_cases c23 : (bt a0 Al) = 45
           ·rw [if_pos c23] at H
            have c23b0 : ((bt a0 Al) == 45) = true:=beq_iff_eq.mpr c23
            have c23b1 : ((bt a0 Al) != 45) = false:=bne_eq_false_iff_eq.mpr c23
            clear c23
            have H':=Aside0.mk H
            clear H
            have p16 : 0 ≤ (Al : Int):=of_decide_eq_true (by first|(with_reducible assumption)|assumption)
            have q16 : Al < (a0.size : Int):=of_decide_eq_true (by first|(with_reducible assumption)|assumption)
            have hx16:=eG a0 Al
            replace p16:=eq_true p16
            replace q16:=eq_true q16
            go_wp2_with (first|((with_reducible refine bq (f:=63) rfl ?_);refine cO (some 32) rfl rfl Tryd.func63 (by kernel_rfl) rfl #[.int .u8 (bt a0 Al)] rfl (by (try simp only [List.map_toArray,List.map_cons,List.map_nil]);first|done|rfl|(simp only [List.length_drop,List.length_take];rfl)|(simp (disch:=first|omega|(simp at *;omega)) only [cZ,bS,dQ];rfl)) ?_;(with_reducible refine (eu.calls (bt a0 Al) false _ Bv.out).mono ?_);rintro e w' ⟨rfl,⟨nd,rfl⟩⟩;refine ⟨_,rfl,?_⟩;have AV : 0 ≤ (Al : Int):=of_decide_eq_true (by first|(with_reducible assumption)|assumption);have AX : Al < (a0.size : Int):=of_decide_eq_true (by first|(with_reducible assumption)|assumption);have Bt:=eG a0 Al;replace AV:=eq_true AV;replace AX:=eq_true AX)|(go_at_call 64;(with_reducible refine (dK.calls (bt a0 Al) false _ BU.out).mono ?_);rintro e w' ⟨rfl,⟨nd,rfl⟩⟩;have Bu : 0 ≤ (Al : Int):=of_decide_eq_true (by first|(with_reducible assumption)|assumption);have q22 : Al < (a0.size : Int):=of_decide_eq_true (by first|(with_reducible assumption)|assumption);have BX:=eG a0 Al;replace Bu:=eq_true Bu;replace q22:=eq_true q22))
            go_roundg k2
            case measure=>have:=Bg.out;have:=Bh.out;omega
            case rel=>exact ⟨(wrap64 (Al + 1)),(by first|rfl|(simp;done)|(simp [*];done)|exact congrArg Value.bool (dh _)|exact congrArg Value.bool (dh _).symm),H',⟨by have:=Bg.out;have:=Bh.out;omega⟩,by repeat (first|exact Drawn0.refl _|apply Drawn0.step)⟩
           ·rw [if_neg c23] at H
            have c23b0 : ((bt a0 Al) == 45) = false:=beq_eq_false_iff_ne.mpr c23
            have c23b1 : ((bt a0 Al) != 45) = true:=bne_iff_ne.mpr c23
            obtain rfl:=Option.some.inj H
            have p16 : 0 ≤ (Al : Int):=of_decide_eq_true (by first|(with_reducible assumption)|assumption)
            have q16 : Al < (a0.size : Int):=of_decide_eq_true (by first|(with_reducible assumption)|assumption)
            have hx16:=eG a0 Al
            replace p16:=eq_true p16
            replace q16:=eq_true q16
            go_wp2_with (first|((with_reducible refine bq (f:=63) rfl ?_);refine cO (some 32) rfl rfl Tryd.func63 (by kernel_rfl) rfl #[.int .u8 (bt a0 Al)] rfl (by (try simp only [List.map_toArray,List.map_cons,List.map_nil]);first|done|rfl|(simp only [List.length_drop,List.length_take];rfl)|(simp (disch:=first|omega|(simp at *;omega)) only [cZ,bS,dQ];rfl)) ?_;(with_reducible refine (eu.calls (bt a0 Al) false _ Bv.out).mono ?_);rintro e w' ⟨rfl,⟨nd,rfl⟩⟩;refine ⟨_,rfl,?_⟩;have AV : 0 ≤ (Al : Int):=of_decide_eq_true (by first|(with_reducible assumption)|assumption);have AX : Al < (a0.size : Int):=of_decide_eq_true (by first|(with_reducible assumption)|assumption);have Bt:=eG a0 Al;replace AV:=eq_true AV;replace AX:=eq_true AX)|(go_at_call 64;(with_reducible refine (dK.calls (bt a0 Al) false _ BU.out).mono ?_);rintro e w' ⟨rfl,⟨nd,rfl⟩⟩;have Bu : 0 ≤ (Al : Int):=of_decide_eq_true (by first|(with_reducible assumption)|assumption);have q22 : Al < (a0.size : Int):=of_decide_eq_true (by first|(with_reducible assumption)|assumption);have BX:=eG a0 Al;replace Bu:=eq_true Bu;replace q22:=eq_true q22))
            go_ret
            exact ⟨by first|rfl|(simp;done)|(simp [*];done),by repeat (first|exact Drawn0.refl _|apply Drawn0.step)⟩
        ·rw [if_neg c15] at H
         exact absurd H (by simp)
       ·rw [if_neg c14] at H
        exact absurd H (by simp)
      ·rw [if_neg c13] at H
       have c13b0 : decide (Al < (a0.size : Int)) = false:=decide_eq_false c13
       clear c13
       obtain rfl:=Option.some.inj H
       go_wp2
       go_ret
       exact ⟨by first|rfl|(simp;done)|(simp [*];done),by repeat (first|exact Drawn0.refl _|apply Drawn0.step)⟩
def bE.f (a0 : Int) (a1 : Int) : Option (Bool):=if a0 ≥ 1 then (some (decide (a0 ≤ a1))) else (some false)
set_option maxHeartbeats 8000000 in
set_option maxRecDepth 100000 in
theorem bE.calls (a0 : Int) (a1 : Int) (r : Bool) (w : World) (h : bE.f a0 a1 = some r) :
  Calls Tryd.prog 38 #[.int .i64 a0,.int .i64 a1] w fun e w'=>e = .returned (.bool r) ∧ Drawn0 w w':=by
 have H : (if a0 ≥ 1 then (some (decide (a0 ≤ a1))) else (some false)) = some r:=h
 clear h
 by_cases c3 : a0 ≥ 1
 ·rw [if_pos c3] at H
  have c3b0 : decide (1 ≤ a0) = true:=decide_eq_true c3
  clear c3
  obtain rfl:=Option.some.inj H
  go_enter Tryd.func38,Tryd.ntmps38
  go_wp2
  go_ret
  exact ⟨by first|rfl|(simp;done)|(simp [*];done),by repeat (first|exact Drawn0.refl _|apply Drawn0.step)⟩
 ·rw [if_neg c3] at H
  have c3b0 : decide (1 ≤ a0) = false:=decide_eq_false c3
  clear c3
  obtain rfl:=Option.some.inj H
  go_enter Tryd.func38,Tryd.ntmps38
  go_wp2
  go_ret
  exact ⟨by first|rfl|(simp;done)|(simp [*];done),by repeat (first|exact Drawn0.refl _|apply Drawn0.step)⟩
def bK.f (a0 : Int) : Option (Bool):=some (decide (a0 > 16))
set_option maxHeartbeats 8000000 in
set_option maxRecDepth 100000 in
theorem bK.calls (a0 : Int) (r : Bool) (w : World) (h : bK.f a0 = some r) :
  Calls Tryd.prog 39 #[.int .i64 a0] w fun e w'=>e = .returned (.bool r) ∧ Drawn0 w w':=by
 have H : (some (decide (a0 > 16))) = some r:=h
 clear h
 obtain rfl:=Option.some.inj H
 go_enter Tryd.func39,Tryd.ntmps39
 go_wp2
 go_ret
 exact ⟨by first|rfl|(simp;done)|(simp [*];done),by repeat (first|exact Drawn0.refl _|apply Drawn0.step)⟩
def fV.f (a0 : Int) : Option (Bool):=if a0 ≥ 65 then (some (decide (a0 ≤ 90))) else (some false)
set_option maxHeartbeats 8000000 in
set_option maxRecDepth 100000 in
theorem fV.calls (a0 : Int) (r : Bool) (w : World) (h : fV.f a0 = some r) :
  Calls Tryd.prog 65 #[.int .u8 a0] w fun e w'=>e = .returned (.bool r) ∧ Drawn0 w w':=by
 have H : (if a0 ≥ 65 then (some (decide (a0 ≤ 90))) else (some false)) = some r:=h
 clear h
 by_cases c2 : a0 ≥ 65
 ·rw [if_pos c2] at H
  have c2b0 : decide (65 ≤ a0) = true:=decide_eq_true c2
  clear c2
  obtain rfl:=Option.some.inj H
  go_enter Tryd.func65,Tryd.ntmps65
  go_wp2
  go_ret
  exact ⟨by first|rfl|(simp;done)|(simp [*];done),by repeat (first|exact Drawn0.refl _|apply Drawn0.step)⟩
 ·rw [if_neg c2] at H
  have c2b0 : decide (65 ≤ a0) = false:=decide_eq_false c2
  clear c2
  obtain rfl:=Option.some.inj H
  go_enter Tryd.func65,Tryd.ntmps65
  go_wp2
  go_ret
  exact ⟨by first|rfl|(simp;done)|(simp [*];done),by repeat (first|exact Drawn0.refl _|apply Drawn0.step)⟩
end Go.Proofs.YtpflenjhmeaeoaaDoor.GUt
