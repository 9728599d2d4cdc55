/- Written by this session's own program (wip/gen.py) out of the translation: plain Lean functions of the Go functions, and proofs that the calls come to their answers. No conditions beside those in the statements. -/
import Derived.Test.YtpncpefppifgdaaGreatDoorCp
import Derived.Test.YtpncpefppifgdaaGreatDoorGUtx0
namespace Go.Proofs.YtpncpefppifgdaaGreatDoor.GUt
open Go.RowKit Go.Proofs.YtpncpefppifgdaaGreatDoorW.PrintWords Go.Proofs.YtpncpefppifgdaaGreatDoorW.PrintLast Go.Proofs.YtpncpefppifgdaaGreatDoorW.PrintMore
attribute [local go_sem] fH fI gF gG eZ fq fJ fK
set_option linter.unusedVariables false
set_option linter.unusedSimpArgs false
def dh.f  : Option (ByteArray × ByteArray × Int × Int × Bool × (List (S84))):=some ((⟨#[119,101,98]⟩ : ByteArray),(⟨#[]⟩ : ByteArray),0,0,false,(([(⟨(⟨#[99]⟩ : ByteArray),(⟨#[110,103,105,110,120]⟩ : ByteArray),([] : List ByteArray),([] : List (S126)),0,0,([] : List (S127))⟩ : S84)] : List (S84))))
set_option maxHeartbeats 8000000 in
set_option maxRecDepth 100000 in
theorem dh.calls  (r1 : ByteArray) (r2 : ByteArray) (r3 : Int) (r4 : Int) (r5 : Bool) (r6 : List (S84)) (w : World) (h : dh.f  = some (r1,r2,r3,r4,r5,r6)) :
  Calls Tryz.prog 80 #[] w fun e w'=>∃ Ce : Value,e = .returned (.agg #[.string r1,.string r2,.int .i64 r3,.int .i64 r4,.bool r5,Ce]) ∧ Kd.S k84 84 w' w.heap.size (fun _=>True) Ce r6 ∧ Below w.heap.size w w':=by
 have Cm:=Tryz.underlying77
 have Cn:=Tryz.underlying84
 have HB:=Aside0.mk (Below.refl w.heap.size w)
 have H : (some ((⟨#[119,101,98]⟩ : ByteArray),(⟨#[]⟩ : ByteArray),0,0,false,(([(⟨(⟨#[99]⟩ : ByteArray),(⟨#[110,103,105,110,120]⟩ : ByteArray),([] : List ByteArray),([] : List (S126)),0,0,([] : List (S127))⟩ : S84)] : List (S84))))) = some (r1,r2,r3,r4,r5,r6):=h
 clear h
 obtain ⟨BG,hy128⟩ : ∃ y_ : List (S84),y_ = (([(⟨(⟨#[99]⟩ : ByteArray),(⟨#[110,103,105,110,120]⟩ : ByteArray),([] : List ByteArray),([] : List (S126)),0,0,([] : List (S127))⟩ : S84)] : List (S84))):=⟨_,rfl⟩
 replace H : (some ((⟨#[119,101,98]⟩ : ByteArray),(⟨#[]⟩ : ByteArray),0,0,false,BG)) = some (r1,r2,r3,r4,r5,r6):=by first|(rw [hy128];with_reducible exact H)|(have BK:=(Option.bind_some _ _).symm.trans H;rw [hy128];with_reducible exact BK)|(have BK:=(Option.bind_some _ _).symm.trans H;with_reducible exact BK)|with_reducible exact H|(rw [hy128];exact H)|exact H
 have BD:=Aside0.mk hy128
 clear hy128
 simp only [Option.some.injEq,Prod.mk.injEq] at H
 obtain ⟨rfl,rfl,rfl,rfl,rfl,rfl⟩:=H
 go_enter Tryz.func80,Tryz.ntmps80
 go_wp2_with (first|((with_reducible refine bN (N:=0) rfl ?_);refine bT ?hg (N:=0) ?hd (cs:=#[.string (⟨#[]⟩ : ByteArray),.string (⟨#[]⟩ : ByteArray),.int .i64 0,.int .i64 0,.bool false,.slice none 0 0]) (t:=77) ?hr ?_;(case hd=>rfl);(case hg=>rfl);(case hr=>first|(go_simp;done)|(go_simp;rfl));intro Bz hg w1 hbox hb;have BH:=Aside0.mk (aN hb_ hb);have BI:=Aside0.mk (hbox);have BJ:=Aside0.mk ((by rw [hg];exact (aR hb_) : w.heap.size ≤ Bz));have Cg:=Aside0.mk ((by rw [hg];exact (aR hb_) : w.heap.size ≤ Bz));clear HB;have HB:=BH;have Bw:=BI;have Ch:=BJ;have Ci:=Cg;clear BH BI BJ Cg;clear hb hbox hg)|((with_reducible refine bN (N:=2) rfl ?_);refine Kd.Ad k84 _ 84 ?hg (N:=2) ?hd (xs:=([(⟨(⟨#[99]⟩ : ByteArray),(⟨#[110,103,105,110,120]⟩ : ByteArray),([] : List ByteArray),([] : List (S126)),0,0,([] : List (S127))⟩ : S84)] : List (S84))) (inner:=[.string (⟨#[99]⟩ : ByteArray),.string (⟨#[110,103,105,110,120]⟩ : ByteArray),.slice none 0 0,.slice none 0 0,.int .i64 0,.int .i64 0,.slice none 0 0]) (ok:=fun _=>True) (okp:=fun _=>True) ?hr ?hp (fun _ hk=>hk) trivial (Below.refl _ _) (Nat.le_refl _) (by simp) ?_;(case hd=>rfl);(case hg=>rfl);(case hr=>first|(go_simp;done)|(go_simp;rfl));(case hp=>exact (dQ.c7 (show Kd.M k84 _ _ _ (⟨(⟨#[99]⟩ : ByteArray),(⟨#[110,103,105,110,120]⟩ : ByteArray),([] : List ByteArray),([] : List (S126)),0,0,([] : List (S127))⟩ : S84) [.string (⟨#[99]⟩ : ByteArray),.string (⟨#[110,103,105,110,120]⟩ : ByteArray),.slice none 0 0,.slice none 0 0,.int .i64 0,.int .i64 0,.slice none 0 0] from (xD _ _ _ (⟨(⟨#[99]⟩ : ByteArray),(⟨#[110,103,105,110,120]⟩ : ByteArray),([] : List ByteArray),([] : List (S126)),0,0,([] : List (S127))⟩ : S84) (Kd.je _ _ _ _ _) (Kd.je _ _ _ _ _) (Kd.je _ _ _ _ _))) (dQ.none _ _)));intro Co w2 ho3 hb hg_ hnew_;clear hg_ hnew_;(first|rw [← BD.out] at ho3|(simp only [Int.reduceToNat] at ho3;rw [← BD.out] at ho3));have BH:=Aside0.mk (Kd.lH ho3 (aR hb_));have BI:=Aside0.mk (aJ (g:=Bz) (o:=.cells #[.string (⟨#[]⟩ : ByteArray),.string (⟨#[]⟩ : ByteArray),.int .i64 0,.int .i64 0,.bool false,.slice none 0 0] 77 (0,0)) (bk_ Bw.out) hb);have BJ:=Aside0.mk (aN hb_ hb);clear Bw;clear HB;have BF:=BH;have Bw:=BI;have HB:=BJ;clear BH BI BJ;clear hb ho3;obtain ⟨Cj,Ck,Cq⟩:=Kd.jo BF.out;subst Cq;have BL : w2.cell? ⟨Bz,0,none⟩ = some (.string (⟨#[]⟩ : ByteArray)):=(ah Bw.out 0).trans rfl;have BN : w2.cell? ⟨Bz,1,none⟩ = some (.string (⟨#[]⟩ : ByteArray)):=(ah Bw.out 1).trans rfl;have BO : w2.cell? ⟨Bz,2,none⟩ = some (.int .i64 0):=(ah Bw.out 2).trans rfl;have BP : w2.cell? ⟨Bz,3,none⟩ = some (.int .i64 0):=(ah Bw.out 3).trans rfl;have BQ : w2.cell? ⟨Bz,4,none⟩ = some (.bool false):=(ah Bw.out 4).trans rfl;have BR : w2.cell? ⟨Bz,5,none⟩ = some (.slice none 0 0):=(ah Bw.out 5).trans rfl;have BS:=av Bw.out 0;have BU:=av Bw.out 1;have BZ:=av Bw.out 2;have Ca:=av Bw.out 3;have Cb:=av Bw.out 4;have Cc:=av Bw.out 5))
 refine bodyPost_ret (results_cell_row rfl _ _ Bz 77 #[.string (⟨#[119,101,98]⟩ : ByteArray),.string (⟨#[]⟩ : ByteArray),.int .i64 0,.int .i64 0,.bool false,.slice Cj BG.length Ck] (0,0) _ rfl (by (with_reducible repeat (first|apply aj|apply ay|apply ak));refine aQ (cs:=#[.string (⟨#[119,101,98]⟩ : ByteArray),.string (⟨#[]⟩ : ByteArray),.int .i64 0,.int .i64 0,.bool false,.slice none 0 0]) ?_ 5 _ rfl;(with_reducible repeat (first|apply aj|apply ay|apply ak));refine aQ (cs:=#[.string (⟨#[119,101,98]⟩ : ByteArray),.string (⟨#[]⟩ : ByteArray),.int .i64 0,.int .i64 0,.bool false,.slice none 0 0]) ?_ 4 _ rfl;(with_reducible repeat (first|apply aj|apply ay|apply ak));refine aQ (cs:=#[.string (⟨#[119,101,98]⟩ : ByteArray),.string (⟨#[]⟩ : ByteArray),.int .i64 0,.int .i64 0,.bool false,.slice none 0 0]) ?_ 3 _ rfl;(with_reducible repeat (first|apply aj|apply ay|apply ak));refine aQ (cs:=#[.string (⟨#[119,101,98]⟩ : ByteArray),.string (⟨#[]⟩ : ByteArray),.int .i64 0,.int .i64 0,.bool false,.slice none 0 0]) ?_ 2 _ rfl;(with_reducible repeat (first|apply aj|apply ay|apply ak));refine aQ (cs:=#[.string (⟨#[119,101,98]⟩ : ByteArray),.string (⟨#[]⟩ : ByteArray),.int .i64 0,.int .i64 0,.bool false,.slice none 0 0]) ?_ 1 _ rfl;(with_reducible repeat (first|apply aj|apply ay|apply ak));refine aQ (cs:=#[.string (⟨#[]⟩ : ByteArray),.string (⟨#[]⟩ : ByteArray),.int .i64 0,.int .i64 0,.bool false,.slice none 0 0]) ?_ 0 _ rfl;(with_reducible repeat (first|apply aj|apply ay|apply ak));exact Bw.out) Tryz.underlying77 rfl (by kernel_rfl)) rfl ?_
 exact ⟨_,by first|rfl|(simp [bg,bA] <;> rfl)|(simp [*,bg,bA] <;> rfl),by (with_reducible repeat (first|apply Kd.dw|apply Kd.dx|apply Kd.dN));exact Kd.fV (Kd.dB (p:=⟨Bz,5,none⟩) (Kd.dB (p:=⟨Bz,4,none⟩) (Kd.dB (p:=⟨Bz,3,none⟩) (Kd.dB (p:=⟨Bz,2,none⟩) (Kd.dB (p:=⟨Bz,1,none⟩) (Kd.dB (p:=⟨Bz,0,none⟩) (Kd.gV BF.out Bw.out (by decide)) (fun _ hk=>hk.2) (.string (⟨#[119,101,98]⟩ : ByteArray))) (fun _ hk=>hk.2) (.string (⟨#[]⟩ : ByteArray))) (fun _ hk=>hk.2) (.int .i64 0)) (fun _ hk=>hk.2) (.int .i64 0)) (fun _ hk=>hk.2) (.bool false)) (fun _ hk=>hk.2) (.slice Cj BG.length Ck)) (fun _ hk=>trivial),hb_⟩
def jq.f (a0 : Int) (a1 : Int) : Option (Int):=if a0 = 0 then (some a1) else (some a0)
set_option maxHeartbeats 8000000 in
set_option maxRecDepth 100000 in
theorem jq.calls (a0 : Int) (a1 : Int) (r : Int) (w : World) (h : jq.f a0 a1 = some r) :
  Calls Tryz.prog 97 #[.int .i64 a0,.int .i64 a1] w fun e w'=>e = .returned (.int .i64 r) ∧ Drawn0 w w':=by
 have H : (if a0 = 0 then (some a1) else (some a0)) = some r:=h
 clear h
 by_cases c3 : a0 = 0
 ·rw [if_pos c3] at H
  have c3b0 : (a0 == 0) = true:=beq_iff_eq.mpr c3
  have c3b1 : (a0 != 0) = false:=bne_eq_false_iff_eq.mpr c3
  clear c3
  obtain rfl:=Option.some.inj H
  go_enter Tryz.func97,Tryz.ntmps97
  go_wp2
  go_ret
  exact ⟨by first|rfl|(simp;done)|(simp [*];done),by repeat (first|exact Drawn0.refl _|apply Drawn0.step)⟩
 ·rw [if_neg c3] at H
  have c3b0 : (a0 == 0) = false:=beq_eq_false_iff_ne.mpr c3
  have c3b1 : (a0 != 0) = true:=bne_iff_ne.mpr c3
  obtain rfl:=Option.some.inj H
  go_enter Tryz.func97,Tryz.ntmps97
  go_wp2
  go_ret
  exact ⟨by first|rfl|(simp;done)|(simp [*];done),by repeat (first|exact Drawn0.refl _|apply Drawn0.step)⟩
def mM.f (a0 : Int) : Option (Bool):=if a0 ≥ 56320 then (some (decide (a0 ≤ 57343))) else (some false)
set_option maxHeartbeats 8000000 in
set_option maxRecDepth 100000 in
theorem mM.calls (a0 : Int) (r : Bool) (w : World) (h : mM.f a0 = some r) :
  Calls Tryz.prog 130 #[.int .i32 a0] w fun e w'=>e = .returned (.bool r) ∧ Drawn0 w w':=by
 have H : (if a0 ≥ 56320 then (some (decide (a0 ≤ 57343))) else (some false)) = some r:=h
 clear h
 by_cases c2 : a0 ≥ 56320
 ·rw [if_pos c2] at H
  have c2b0 : decide (56320 ≤ a0) = true:=decide_eq_true c2
  clear c2
  obtain rfl:=Option.some.inj H
  go_enter Tryz.func130,Tryz.ntmps130
  go_wp2
  go_ret
  exact ⟨by first|rfl|(simp;done)|(simp [*];done),by repeat (first|exact Drawn0.refl _|apply Drawn0.step)⟩
 ·rw [if_neg c2] at H
  have c2b0 : decide (56320 ≤ a0) = false:=decide_eq_false c2
  clear c2
  obtain rfl:=Option.some.inj H
  go_enter Tryz.func130,Tryz.ntmps130
  go_wp2
  go_ret
  exact ⟨by first|rfl|(simp;done)|(simp [*];done),by repeat (first|exact Drawn0.refl _|apply Drawn0.step)⟩
def kX.f (a0 : Int) : Option (Bool):=if a0 ≥ 55296 then (some (decide (a0 ≤ 56319))) else (some false)
set_option maxHeartbeats 8000000 in
set_option maxRecDepth 100000 in
theorem kX.calls (a0 : Int) (r : Bool) (w : World) (h : kX.f a0 = some r) :
  Calls Tryz.prog 131 #[.int .i32 a0] w fun e w'=>e = .returned (.bool r) ∧ Drawn0 w w':=by
 have H : (if a0 ≥ 55296 then (some (decide (a0 ≤ 56319))) else (some false)) = some r:=h
 clear h
 by_cases c2 : a0 ≥ 55296
 ·rw [if_pos c2] at H
  have c2b0 : decide (55296 ≤ a0) = true:=decide_eq_true c2
  clear c2
  obtain rfl:=Option.some.inj H
  go_enter Tryz.func131,Tryz.ntmps131
  go_wp2
  go_ret
  exact ⟨by first|rfl|(simp;done)|(simp [*];done),by repeat (first|exact Drawn0.refl _|apply Drawn0.step)⟩
 ·rw [if_neg c2] at H
  have c2b0 : decide (55296 ≤ a0) = false:=decide_eq_false c2
  clear c2
  obtain rfl:=Option.some.inj H
  go_enter Tryz.func131,Tryz.ntmps131
  go_wp2
  go_ret
  exact ⟨by first|rfl|(simp;done)|(simp [*];done),by repeat (first|exact Drawn0.refl _|apply Drawn0.step)⟩
def kg.f (a0 : Int) : Option (Int):=if a0 ≥ 65 then (if a0 ≤ 70 then (some ((a0 + 32) % 256)) else (some a0)) else (some a0)
set_option maxHeartbeats 8000000 in
set_option maxRecDepth 100000 in
theorem kg.calls (a0 : Int) (r : Int) (w : World) (h : kg.f a0 = some r) :
  Calls Tryz.prog 138 #[.int .u8 a0] w fun e w'=>e = .returned (.int .u8 r) ∧ Drawn0 w w':=by
 have H : (if a0 ≥ 65 then (if a0 ≤ 70 then (some ((a0 + 32) % 256)) else (some a0)) else (some a0)) = some r:=h
 clear h
 by_cases c2 : a0 ≥ 65
 ·rw [if_pos c2] at H
  have c2b0 : decide (65 ≤ a0) = true:=decide_eq_true c2
  clear c2
  by_cases c3 : a0 ≤ 70
  ·rw [if_pos c3] at H
   have c3b0 : decide (a0 ≤ 70) = true:=decide_eq_true c3
   clear c3
   obtain rfl:=Option.some.inj H
   go_enter Tryz.func138,Tryz.ntmps138
   go_wp2
   go_ret
   exact ⟨by first|rfl|(simp;done)|(simp [*];done),by repeat (first|exact Drawn0.refl _|apply Drawn0.step)⟩
  ·rw [if_neg c3] at H
   have c3b0 : decide (a0 ≤ 70) = false:=decide_eq_false c3
   clear c3
   obtain rfl:=Option.some.inj H
   go_enter Tryz.func138,Tryz.ntmps138
   go_wp2
   go_ret
   exact ⟨by first|rfl|(simp;done)|(simp [*];done),by repeat (first|exact Drawn0.refl _|apply Drawn0.step)⟩
 ·rw [if_neg c2] at H
  have c2b0 : decide (65 ≤ a0) = false:=decide_eq_false c2
  clear c2
  obtain rfl:=Option.some.inj H
  go_enter Tryz.func138,Tryz.ntmps138
  go_wp2
  go_ret
  exact ⟨by first|rfl|(simp;done)|(simp [*];done),by repeat (first|exact Drawn0.refl _|apply Drawn0.step)⟩
end Go.Proofs.YtpncpefppifgdaaGreatDoor.GUt
