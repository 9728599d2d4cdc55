/- Written by this session's own program (wip/gen.py) out of the translation: plain Lean functions of the Go functions, and proofs that the calls come to their answers. No conditions beside those in the statements. -/
import Derived.Test.YtpflenjhmeaeoaaGreatDoorCp
import Derived.Test.YtpflenjhmeaeoaaGreatDoorGUtx0
namespace Go.Proofs.YtpflenjhmeaeoaaGreatDoor.GUt
open Go.RowKit Go.Proofs.YtpflenjhmeaeoaaGreatDoorW.PrintWords Go.Proofs.YtpflenjhmeaeoaaGreatDoorW.PrintLast Go.Proofs.YtpflenjhmeaeoaaGreatDoorW.PrintMore
attribute [local go_sem] fJ fK gH gI eO eP fM fO
set_option linter.unusedVariables false
set_option linter.unusedSimpArgs false
def dw.f  : Option (ByteArray × ByteArray × Int × Int × Bool × (List (S69))):=some ((⟨#[119,101,98]⟩ : ByteArray),(⟨#[]⟩ : ByteArray),0,0,false,(([(⟨(⟨#[99]⟩ : ByteArray),(⟨#[110,103,105,110,120]⟩ : ByteArray),([] : List ByteArray),([] : List (S88)),0,0,([] : List (S71))⟩ : S69)] : List (S69))))
set_option maxHeartbeats 8000000 in
set_option maxRecDepth 100000 in
theorem dw.calls  (r1 : ByteArray) (r2 : ByteArray) (r3 : Int) (r4 : Int) (r5 : Bool) (r6 : List (S69)) (w : World) (h : dw.f  = some (r1,r2,r3,r4,r5,r6)) :
  Calls Tryz.prog 16 #[] w fun e w'=>∃ CJ : Value,e = .returned (.agg #[.string r1,.string r2,.int .i64 r3,.int .i64 r4,.bool r5,CJ]) ∧ Kd.S k69 69 w' w.heap.size (fun _=>True) CJ r6 ∧ Below w.heap.size w w':=by
 have CY:=Tryz.underlying49
 have CZ:=Tryz.underlying69
 have HB:=Aside0.mk (Below.refl w.heap.size w)
 have H : (some ((⟨#[119,101,98]⟩ : ByteArray),(⟨#[]⟩ : ByteArray),0,0,false,(([(⟨(⟨#[99]⟩ : ByteArray),(⟨#[110,103,105,110,120]⟩ : ByteArray),([] : List ByteArray),([] : List (S88)),0,0,([] : List (S71))⟩ : S69)] : List (S69))))) = some (r1,r2,r3,r4,r5,r6):=h
 clear h
 obtain ⟨BJ,Bn⟩ : ∃ y_ : List (S69),y_ = (([(⟨(⟨#[99]⟩ : ByteArray),(⟨#[110,103,105,110,120]⟩ : ByteArray),([] : List ByteArray),([] : List (S88)),0,0,([] : List (S71))⟩ : S69)] : List (S69))):=⟨_,rfl⟩
 replace H : (some ((⟨#[119,101,98]⟩ : ByteArray),(⟨#[]⟩ : ByteArray),0,0,false,BJ)) = some (r1,r2,r3,r4,r5,r6):=by first|(rw [Bn];with_reducible exact H)|(have Bv:=(Option.bind_some _ _).symm.trans H;rw [Bn];with_reducible exact Bv)|(have Bv:=(Option.bind_some _ _).symm.trans H;with_reducible exact Bv)|with_reducible exact H|(rw [Bn];exact H)|exact H
 have BG:=Aside0.mk Bn
 clear Bn
 simp only [Option.some.injEq,Prod.mk.injEq] at H
 obtain ⟨rfl,rfl,rfl,rfl,rfl,rfl⟩:=H
 go_enter Tryz.func16,Tryz.ntmps16
 go_wp2_with (first|((with_reducible refine cZ (N:=0) rfl ?_);refine dA ?hg (N:=0) ?hd (cs:=#[.string (⟨#[]⟩ : ByteArray),.string (⟨#[]⟩ : ByteArray),.int .i64 0,.int .i64 0,.bool false,.slice none 0 0]) (t:=49) ?hr ?_;(case hd=>rfl);(case hg=>rfl);(case hr=>first|(go_simp;done)|(go_simp;rfl));intro Bg hg w1 hbox hb;have Bw:=Aside0.mk (aK hb_ hb);have Bz:=Aside0.mk (hbox);have BP:=Aside0.mk ((by rw [hg];exact (aM hb_) : w.heap.size ≤ Bg));have CK:=Aside0.mk ((by rw [hg];exact (aM hb_) : w.heap.size ≤ Bg));clear HB;have HB:=Bw;have Bf:=Bz;have CO:=BP;have CP:=CK;clear Bw Bz BP CK;clear hb hbox hg)|((with_reducible refine cZ (N:=2) rfl ?_);refine Kd.zU k69 _ 69 ?hg (N:=2) ?hd (xs:=([(⟨(⟨#[99]⟩ : ByteArray),(⟨#[110,103,105,110,120]⟩ : ByteArray),([] : List ByteArray),([] : List (S88)),0,0,([] : List (S71))⟩ : S69)] : List (S69))) (inner:=[.string (⟨#[99]⟩ : ByteArray),.string (⟨#[110,103,105,110,120]⟩ : ByteArray),.slice none 0 0,.slice none 0 0,.int .i64 0,.int .i64 0,.slice none 0 0]) (ok:=fun _=>True) (okp:=fun _=>True) ?hr ?hp (fun _ hk=>hk) trivial (Below.refl _ _) (Nat.le_refl _) (by simp) ?_;(case hd=>rfl);(case hg=>rfl);(case hr=>first|(go_simp;done)|(go_simp;rfl));(case hp=>exact (dX.c7 (show Kd.M k69 _ _ _ (⟨(⟨#[99]⟩ : ByteArray),(⟨#[110,103,105,110,120]⟩ : ByteArray),([] : List ByteArray),([] : List (S88)),0,0,([] : List (S71))⟩ : S69) [.string (⟨#[99]⟩ : ByteArray),.string (⟨#[110,103,105,110,120]⟩ : ByteArray),.slice none 0 0,.slice none 0 0,.int .i64 0,.int .i64 0,.slice none 0 0] from (xE _ _ _ (⟨(⟨#[99]⟩ : ByteArray),(⟨#[110,103,105,110,120]⟩ : ByteArray),([] : List ByteArray),([] : List (S88)),0,0,([] : List (S71))⟩ : S69) (Kd.kJ _ _ _ _ _) (Kd.kJ _ _ _ _ _) (Kd.kJ _ _ _ _ _))) (dX.none _ _)));intro v183 w2 ho3 hb hg_ hnew_;clear hg_ hnew_;(first|rw [← BG.out] at ho3|(simp only [Int.reduceToNat] at ho3;rw [← BG.out] at ho3));have Bw:=Aside0.mk (Kd.qx ho3 (aM hb_));have Bz:=Aside0.mk (aN (g:=Bg) (o:=.cells #[.string (⟨#[]⟩ : ByteArray),.string (⟨#[]⟩ : ByteArray),.int .i64 0,.int .i64 0,.bool false,.slice none 0 0] 49 (0,0)) (bk_ Bf.out) hb);have BP:=Aside0.mk (aK hb_ hb);clear Bf;clear HB;have BH:=Bw;have Bf:=Bz;have HB:=BP;clear Bw Bz BP;clear hb ho3;obtain ⟨CQ,CS,C8⟩:=Kd.qy BH.out;subst C8;have Cc : w2.cell? ⟨Bg,0,none⟩ = some (.string (⟨#[]⟩ : ByteArray)):=(ah Bf.out 0).trans rfl;have Ce : w2.cell? ⟨Bg,1,none⟩ = some (.string (⟨#[]⟩ : ByteArray)):=(ah Bf.out 1).trans rfl;have Cg : w2.cell? ⟨Bg,2,none⟩ = some (.int .i64 0):=(ah Bf.out 2).trans rfl;have Ch : w2.cell? ⟨Bg,3,none⟩ = some (.int .i64 0):=(ah Bf.out 3).trans rfl;have Ci : w2.cell? ⟨Bg,4,none⟩ = some (.bool false):=(ah Bf.out 4).trans rfl;have Cj : w2.cell? ⟨Bg,5,none⟩ = some (.slice none 0 0):=(ah Bf.out 5).trans rfl;have Ck:=ak Bf.out 0;have Cm:=ak Bf.out 1;have Cn:=ak Bf.out 2;have Co:=ak Bf.out 3;have Cq:=ak Bf.out 4;have Cr:=ak Bf.out 5))
 refine bodyPost_ret (results_cell_row rfl _ _ Bg 49 #[.string (⟨#[119,101,98]⟩ : ByteArray),.string (⟨#[]⟩ : ByteArray),.int .i64 0,.int .i64 0,.bool false,.slice CQ BJ.length CS] (0,0) _ rfl (by (with_reducible repeat (first|apply ay|apply aG|apply aD));refine bN (cs:=#[.string (⟨#[119,101,98]⟩ : ByteArray),.string (⟨#[]⟩ : ByteArray),.int .i64 0,.int .i64 0,.bool false,.slice none 0 0]) ?_ 5 _ rfl;(with_reducible repeat (first|apply ay|apply aG|apply aD));refine bN (cs:=#[.string (⟨#[119,101,98]⟩ : ByteArray),.string (⟨#[]⟩ : ByteArray),.int .i64 0,.int .i64 0,.bool false,.slice none 0 0]) ?_ 4 _ rfl;(with_reducible repeat (first|apply ay|apply aG|apply aD));refine bN (cs:=#[.string (⟨#[119,101,98]⟩ : ByteArray),.string (⟨#[]⟩ : ByteArray),.int .i64 0,.int .i64 0,.bool false,.slice none 0 0]) ?_ 3 _ rfl;(with_reducible repeat (first|apply ay|apply aG|apply aD));refine bN (cs:=#[.string (⟨#[119,101,98]⟩ : ByteArray),.string (⟨#[]⟩ : ByteArray),.int .i64 0,.int .i64 0,.bool false,.slice none 0 0]) ?_ 2 _ rfl;(with_reducible repeat (first|apply ay|apply aG|apply aD));refine bN (cs:=#[.string (⟨#[119,101,98]⟩ : ByteArray),.string (⟨#[]⟩ : ByteArray),.int .i64 0,.int .i64 0,.bool false,.slice none 0 0]) ?_ 1 _ rfl;(with_reducible repeat (first|apply ay|apply aG|apply aD));refine bN (cs:=#[.string (⟨#[]⟩ : ByteArray),.string (⟨#[]⟩ : ByteArray),.int .i64 0,.int .i64 0,.bool false,.slice none 0 0]) ?_ 0 _ rfl;(with_reducible repeat (first|apply ay|apply aG|apply aD));exact Bf.out) Tryz.underlying49 rfl (by kernel_rfl)) rfl ?_
 exact ⟨_,by first|rfl|(simp [aY,aZ] <;> rfl)|(simp [*,aY,aZ] <;> rfl),by (with_reducible repeat (first|apply Kd.ji|apply Kd.jk|apply Kd.jQ));exact Kd.r9 (Kd.kH (p:=⟨Bg,5,none⟩) (Kd.kH (p:=⟨Bg,4,none⟩) (Kd.kH (p:=⟨Bg,3,none⟩) (Kd.kH (p:=⟨Bg,2,none⟩) (Kd.kH (p:=⟨Bg,1,none⟩) (Kd.kH (p:=⟨Bg,0,none⟩) (Kd.tC BH.out Bf.out (by decide)) (fun _ hk=>hk.2) (.string (⟨#[119,101,98]⟩ : ByteArray))) (fun _ hk=>hk.2) (.string (⟨#[]⟩ : ByteArray))) (fun _ hk=>hk.2) (.int .i64 0)) (fun _ hk=>hk.2) (.int .i64 0)) (fun _ hk=>hk.2) (.bool false)) (fun _ hk=>hk.2) (.slice CQ BJ.length CS)) (fun _ hk=>trivial),hb_⟩
def jN.f (a0 : Int) : Option (Bool):=if a0 = 1 then (some true) else (if a0 = 2 then (some true) else (if a0 = 4 then (some true) else (if a0 = 8 then (some true) else (some false))))
set_option maxHeartbeats 8000000 in
set_option maxRecDepth 100000 in
theorem jN.calls (a0 : Int) (r : Bool) (w : World) (h : jN.f a0 = some r) :
  Calls Tryz.prog 67 #[.int .i64 a0] w fun e w'=>e = .returned (.bool r) ∧ Drawn0 w w':=by
 have H : (if a0 = 1 then (some true) else (if a0 = 2 then (some true) else (if a0 = 4 then (some true) else (if a0 = 8 then (some true) else (some false))))) = some r:=h
 clear h
 by_cases c2 : a0 = 1
 ·rw [if_pos c2] at H
  have c2b0 : (a0 == 1) = true:=beq_iff_eq.mpr c2
  have c2b1 : (a0 != 1) = false:=bne_eq_false_iff_eq.mpr c2
  clear c2
  obtain rfl:=Option.some.inj H
  go_enter Tryz.func67,Tryz.ntmps67
  go_wp2
  go_ret
  exact ⟨by first|rfl|(simp;done)|(simp [*];done),by repeat (first|exact Drawn0.refl _|apply Drawn0.step)⟩
 ·rw [if_neg c2] at H
  have c2b0 : (a0 == 1) = false:=beq_eq_false_iff_ne.mpr c2
  have c2b1 : (a0 != 1) = true:=bne_iff_ne.mpr c2
  by_cases c3 : a0 = 2
  ·rw [if_pos c3] at H
   have c3b0 : (a0 == 2) = true:=beq_iff_eq.mpr c3
   have c3b1 : (a0 != 2) = false:=bne_eq_false_iff_eq.mpr c3
   clear c3
   obtain rfl:=Option.some.inj H
   go_enter Tryz.func67,Tryz.ntmps67
   go_wp2
   go_ret
   exact ⟨by first|rfl|(simp;done)|(simp [*];done),by repeat (first|exact Drawn0.refl _|apply Drawn0.step)⟩
  ·rw [if_neg c3] at H
   have c3b0 : (a0 == 2) = false:=beq_eq_false_iff_ne.mpr c3
   have c3b1 : (a0 != 2) = true:=bne_iff_ne.mpr c3
   by_cases c4 : a0 = 4
   ·rw [if_pos c4] at H
    have c4b0 : (a0 == 4) = true:=beq_iff_eq.mpr c4
    have c4b1 : (a0 != 4) = false:=bne_eq_false_iff_eq.mpr c4
    clear c4
    obtain rfl:=Option.some.inj H
    go_enter Tryz.func67,Tryz.ntmps67
    go_wp2
    go_ret
    exact ⟨by first|rfl|(simp;done)|(simp [*];done),by repeat (first|exact Drawn0.refl _|apply Drawn0.step)⟩
   ·rw [if_neg c4] at H
    have c4b0 : (a0 == 4) = false:=beq_eq_false_iff_ne.mpr c4
    have c4b1 : (a0 != 4) = true:=bne_iff_ne.mpr c4
    by_cases c5 : a0 = 8
    ·rw [if_pos c5] at H
     have c5b0 : (a0 == 8) = true:=beq_iff_eq.mpr c5
     have c5b1 : (a0 != 8) = false:=bne_eq_false_iff_eq.mpr c5
     clear c5
     obtain rfl:=Option.some.inj H
     go_enter Tryz.func67,Tryz.ntmps67
     go_wp2
     go_ret
     exact ⟨by first|rfl|(simp;done)|(simp [*];done),by repeat (first|exact Drawn0.refl _|apply Drawn0.step)⟩
    ·rw [if_neg c5] at H
     have c5b0 : (a0 == 8) = false:=beq_eq_false_iff_ne.mpr c5
     have c5b1 : (a0 != 8) = true:=bne_iff_ne.mpr c5
     obtain rfl:=Option.some.inj H
     go_enter Tryz.func67,Tryz.ntmps67
     go_wp2
     go_ret
     exact ⟨by first|rfl|(simp;done)|(simp [*];done),by repeat (first|exact Drawn0.refl _|apply Drawn0.step)⟩
def dz.l0 : Nat → Int → Int → List Int → Int → Int → Option (ByteArray)
 | 0,_,_,_,_,_=>none
 | k + 1,x0,x1,x5,CU,BK=>if BK < CU then (if 0 ≤ (wrap64 (8 * BK)) then (if 0 ≤ (wrap64 ((wrap64 (x0 - 1)) - BK)) then (if (wrap64 ((wrap64 (x0 - 1)) - BK)) < (x5.length : Int) then (dz.l0 k x0 x1 (x5.set ((wrap64 ((wrap64 (x0 - 1)) - BK)) : Int).toNat ((shr .u64 x1 (wrap64 (8 * BK))) % 256)) CU (wrap64 (BK + 1))) else (none)) else (none)) else (none)) else (some (strOfNums x5))
def dz.f (k : Nat) (a0 : Int) (a1 : Int) : Option (ByteArray):=(jN.f a0).bind fun Bu=>(if Bu = true then (if 0 ≤ a0 then (if (a0 : Int).toNat ≤ 281474976710656 then (dz.l0 k a0 a1 (List.replicate (a0 : Int).toNat 0) a0 0) else (none)) else (none)) else (some (⟨#[]⟩ : ByteArray)))
theorem dz.dQ : ∀ k,(∀ y0 y1 y2 y3 y4,LeO (dz.l0 k y0 y1 y2 y3 y4) (dz.l0 (k + 1) y0 y1 y2 y3 y4))
 | 0=>fun _ _ _ _ _ r h=>by simp [dz.l0] at h
 | k + 1=>by
  have BQ:=dz.dQ k
  ·intro y0 y1 y2 y3 y4
   unfold dz.l0
   repeat' first
   | (with_reducible exact BQ _ _ _ _ _)
   | (with_reducible exact LeO.refl _)
   | (with_reducible exact LeO.none _)
   | (with_reducible refine LeO.ite ?_ ?_)
   | (with_reducible refine LeO.bind ?_ (fun _=>?_))
   | exact BQ _ _ _ _ _
   | exact LeO.none _
   | refine LeO.ite ?_ ?_
   | refine LeO.bind ?_ (fun _=>?_)
theorem dz.mono : ∀ a0 a1 k,LeO (dz.f k a0 a1) (dz.f (k + 1) a0 a1):=by
 intro a0 a1 k
 have BQ:=dz.dQ k
 unfold dz.f
 repeat' first
   | (with_reducible exact BQ _ _ _ _ _)
   | (with_reducible exact LeO.refl _)
   | (with_reducible exact LeO.none _)
   | (with_reducible refine LeO.ite ?_ ?_)
   | (with_reducible refine LeO.bind ?_ (fun _=>?_))
   | exact BQ _ _ _ _ _
   | exact LeO.none _
   | refine LeO.ite ?_ ?_
   | refine LeO.bind ?_ (fun _=>?_)
set_option maxHeartbeats 8000000 in
set_option maxRecDepth 100000 in
theorem dz.calls (k : Nat) (a0 : Int) (a1 : Int) (r : ByteArray) (w : World) (h : dz.f k a0 a1 = some r) :
  Calls Tryz.prog 46 #[.int .i64 a0,.int .u64 a1] w fun e w'=>e = .returned (.string r) ∧ Below w.heap.size w w':=by
 have HB:=Aside0.mk (Below.refl w.heap.size w)
 have H : ((jN.f a0).bind fun Bu=>(if Bu = true then (if 0 ≤ a0 then (if (a0 : Int).toNat ≤ 281474976710656 then (dz.l0 k a0 a1 (List.replicate (a0 : Int).toNat 0) a0 0) else (none)) else (none)) else (some (⟨#[]⟩ : ByteArray)))) = some r:=h
 clear h
 replace H:=Option.bind_eq_some_iff.mp H
 obtain ⟨Bu,CV,H⟩:=H
 replace H : (if Bu = true then (if 0 ≤ a0 then (if (a0 : Int).toNat ≤ 281474976710656 then (dz.l0 k a0 a1 (List.replicate (a0 : Int).toNat 0) a0 0) else (none)) else (none)) else (some (⟨#[]⟩ : ByteArray))) = some r:=H
 have A3:=Aside0.mk CV
 clear CV
 by_cases c4 : Bu = true
 ·subst c4
  have H1 : (if 0 ≤ a0 then (if (a0 : Int).toNat ≤ 281474976710656 then (dz.l0 k a0 a1 (List.replicate (a0 : Int).toNat 0) a0 0) else (none)) else (none)) = some r:=by rw [if_pos rfl] at H;exact H
  clear H
  have H:=H1
  clear H1
  by_cases c5 : 0 ≤ a0
  ·rw [if_pos c5] at H
   have c5b0:=eq_true c5
   have c5b1 : decide (0 ≤ a0) = true:=decide_eq_true c5
   clear c5
   by_cases c6 : (a0 : Int).toNat ≤ 281474976710656
   ·rw [if_pos c6] at H
    have c6b0:=eq_true c6
    have c6b1 : decide ((a0 : Int).toNat ≤ 281474976710656) = true:=decide_eq_true c6
    clear c6
    obtain ⟨BR,Bo⟩ : ∃ y_ : List Int,y_ = (List.replicate (a0 : Int).toNat 0):=⟨_,rfl⟩
    replace H : (dz.l0 k a0 a1 BR a0 0) = some r:=by first|(rw [Bo];with_reducible exact H)|(have Bv:=(Option.bind_some _ _).symm.trans H;rw [Bo];with_reducible exact Bv)|(have Bv:=(Option.bind_some _ _).symm.trans H;with_reducible exact Bv)|with_reducible exact H|(rw [Bo];exact H)|exact H
    have BI:=Aside0.mk Bo
    clear Bo
    have H':=Aside0.mk H
    clear H
    go_enter Tryz.func46,Tryz.ntmps46
    go_wp2_with (first|((with_reducible refine bF (f:=67) rfl ?_);refine dN (some 8) rfl rfl Tryz.func67 (by kernel_rfl) rfl #[.int .i64 a0] rfl (by (try simp only [List.map_toArray,List.map_cons,List.map_nil]);first|done|rfl|(simp only [List.length_drop,List.length_take];rfl)|(simp (disch:=first|omega|(simp at *;omega)) only [dO,dG,eH];rfl)) ?_;(with_reducible refine (jN.calls a0 true _ A3.out).mono ?_);rintro e w' ⟨rfl,⟨nd,rfl⟩⟩;refine ⟨_,rfl,?_⟩)|((with_reducible refine cZ (N:=11) rfl ?_);refine Kd.yK (Kd.int .u8) _ 5 rfl (N:=11) rfl 92 _ _ rfl a0 rfl rfl Tryz.underlying92 (.int .u8 0) 1 info5 rfl (by decide) (by omega) 0 (ok:=fun _=>True) (okp:=fun _=>True) rfl (fun _ hk=>hk) trivial (of_decide_eq_true (by first|(with_reducible assumption)|assumption)) (Nat.le_trans (Nat.mul_le_mul_right _ (of_decide_eq_true (by first|(with_reducible assumption)|assumption) : a0.toNat ≤ 281474976710656)) (by omega)) (Below.refl _ _) (Nat.le_refl _) ?_;intro Ct w7 BS hb hg_ hnew_;clear hg_ hnew_;(first|rw [← BI.out] at BS|(simp only [Int.reduceToNat] at BS;rw [← BI.out] at BS));have Bw:=Aside0.mk (Kd.iD BS (aM hb_));have Bz:=Aside0.mk (aK hb_ hb);clear HB;have BU:=Bw;have HB:=Bz;clear Bw Bz;clear hb BS))
    go_loopg [13] k (fun kq v13 w'=>∃ (Bh : List Int) (AZ : Int),v13 = .int .i64 AZ ∧ Aside0 (dz.l0 kq a0 a1 Bh a0 AZ = some r) ∧ Aside0 (kq ≤ k) ∧ Aside0 (Kd.R (Kd.int .u8) 5 w' w.heap.size (fun _=>True) Ct Bh) ∧ Aside0 (Below w.heap.size w w'))
    case atStart=>exact ⟨(BR),(0),(by first|rfl|(simp;done)|(simp [*];done)),H',⟨Nat.le_refl _⟩,⟨by (with_reducible repeat (first|apply Kd.fG|apply Kd.fH|apply Kd.eD));exact BU.out⟩,⟨hb_⟩⟩
    case round =>
     clear H'
     try clear p2
     try clear c4
     try clear c5
     try clear c5b0
     try clear c5b1
     try clear c6
     try clear c6b0
     try clear c6b1
     obtain ⟨Bh,AZ,rfl,HA,CW,Bq,HB⟩:=hrel
     cases gk with
     | zero=>exact absurd HA.out (by simp [dz.l0])
     | succ k1 =>
      have H:=HA.out
      clear HA
      simp only [dz.l0] at H
      by_cases c9 : AZ < a0
      ·rw [if_pos c9] at H
       have c9b0 : decide (AZ < a0) = true:=decide_eq_true c9
       clear c9
       obtain ⟨Bl,BD⟩ : ∃ j_ : Int,(wrap64 (8 * AZ)) = j_:=⟨_,rfl⟩
       replace H : (if 0 ≤ (Bl) then (if 0 ≤ (wrap64 ((wrap64 (a0 - 1)) - AZ)) then (if (wrap64 ((wrap64 (a0 - 1)) - AZ)) < (Bh.length : Int) then (dz.l0 k1 a0 a1 (Bh.set ((wrap64 ((wrap64 (a0 - 1)) - AZ)) : Int).toNat ((shr .u64 a1 (Bl)) % 256)) a0 (wrap64 (AZ + 1))) else (none)) else (none)) else (none)) = some r:=by first|(rw [BD] at H;exact H)|(simp only [BD] at H ⊢;exact H)
       have hji10w : (IntKind.i64.wrap (8 * AZ)) = Bl:=(bJ _).trans BD
       by_cases c11 : 0 ≤ (Bl)
       ·rw [if_pos c11] at H
        have c11b0:=eq_true c11
        have c11b1 : decide (0 ≤ (Bl)) = true:=decide_eq_true c11
        clear c11
        obtain ⟨Br,Bt⟩ : ∃ j_ : Int,(shr .u64 a1 (Bl)) = j_:=⟨_,rfl⟩
        replace H : (if 0 ≤ (wrap64 ((wrap64 (a0 - 1)) - AZ)) then (if (wrap64 ((wrap64 (a0 - 1)) - AZ)) < (Bh.length : Int) then (dz.l0 k1 a0 a1 (Bh.set ((wrap64 ((wrap64 (a0 - 1)) - AZ)) : Int).toNat ((Br) % 256)) a0 (wrap64 (AZ + 1))) else (none)) else (none)) = some r:=by first|(rw [Bt] at H;exact H)|(simp only [Bt] at H ⊢;exact H)
        have Cu : (a1 / 2 ^ min (Bl).toNat 64) = Br:=Bt
        have hji12z : (Bl) ≤ 64 → (a1 / 2 ^ (Bl).toNat) = Br:=uD Bt
        obtain ⟨Bj,BF⟩ : ∃ j_ : Int,(wrap64 ((wrap64 (a0 - 1)) - AZ)) = j_:=⟨_,rfl⟩
        replace H : (if 0 ≤ (Bj) then (if (Bj) < (Bh.length : Int) then (dz.l0 k1 a0 a1 (Bh.set ((Bj) : Int).toNat ((Br) % 256)) a0 (wrap64 (AZ + 1))) else (none)) else (none)) = some r:=by first|(rw [BF] at H;exact H)|(simp only [BF] at H ⊢;exact H)
        have hji13w : (IntKind.i64.wrap ((wrap64 (a0 - 1)) - AZ)) = Bj:=(bJ _).trans BF
        by_cases c14 : 0 ≤ (Bj)
        ·rw [if_pos c14] at H
         have c14b0 : decide (0 ≤ (Bj)) = true:=decide_eq_true c14
         clear c14
         by_cases c15 : (Bj) < (Bh.length : Int)
         ·rw [if_pos c15] at H
          have c15b0 : decide ((Bj) < (Bh.length : Int)) = true:=decide_eq_true c15
          clear c15
          obtain ⟨BL,Bp⟩ : ∃ y_ : List Int,y_ = (Bh.set ((Bj) : Int).toNat ((Br) % 256)):=⟨_,rfl⟩
          replace H : (dz.l0 k1 a0 a1 BL a0 (wrap64 (AZ + 1))) = some r:=by first|(rw [Bp];with_reducible exact H)|(have Bv:=(Option.bind_some _ _).symm.trans H;rw [Bp];with_reducible exact Bv)|(have Bv:=(Option.bind_some _ _).symm.trans H;with_reducible exact Bv)|with_reducible exact H|(rw [Bp];exact H)|exact H
          have BX:=Aside0.mk Bp
          clear Bp
          have H':=Aside0.mk H
          clear H
          have p16 : 0 ≤ ((Bj) : Int):=of_decide_eq_true (by first|(with_reducible assumption)|assumption)
          have q16 : ((Bj) : Int) < ((Bh.length : Int) : Int):=of_decide_eq_true (by first|(with_reducible assumption)|assumption)
          obtain ⟨BN,Cv,BZ,Ca,Cw,C9,Cb⟩:=Kd.yI Bq.out (by omega)
          (first|cases BZ|(injection BZ with ea_ en_ ec_;(first|subst ea_|(injection ea_ with ea_;subst ea_));subst ec_;clear en_))
          have Cz:=Aside0.mk Ca
          have Da:=Aside0.mk Cb
          clear Ca Cw Cb
          obtain ⟨CB,CF⟩:=Kd.wW 0 Bq.out ((Bj) : Int) p16 q16
          replace p16:=eq_true p16
          replace q16:=eq_true q16
          have BO:=Kd.yN Bq.out ((Bj) : Int) ((Br) % 256)
          go_wp2_with (first|((with_reducible refine rY (t:=5) (p:=26) rfl ?_);refine qW (t:=5) (p:=26) (v:=?vo_w18) (w1:=(wr.setCell ⟨BN,((Bj) : Int).toNat,none⟩ (.int .u8 ((Br) % 256)))) ?hg ?ho ?hn ?hr ?_;(case ho=>rfl);(case hg=>rfl);(case hn=>rfl);(case hr=>first|(go_simp;done)|(go_simp;rfl));intro CG hw;have hg : wr.grownBy CG (some BN):=(by rw [hw];exact BO.2);have hp_ : Kd.R (Kd.int .u8) 5 CG w.heap.size (fun _=>True) (.slice (some ⟨BN,0,none⟩) Bh.length Cv) BL:=(by rw [hw,BX.out];exact BO.1);clear BO;have Bw:=Aside0.mk (hp_);have Bz:=Aside0.mk ((by rw [hw];exact gQ (HB.out) Cz.out : Below w.heap.size w CG));clear Bq;clear HB;have Bq:=Bw;have HB:=Bz;clear Bw Bz;clear hg hw hp_))
          go_roundg k1
          case measure=>have:=CW.out;omega
          case rel=>exact ⟨(BL),(wrap64 (AZ + 1)),(by first|rfl|(simp;done)|(simp [*];done)),H',⟨by have:=CW.out;omega⟩,⟨by (with_reducible repeat (first|apply Kd.fG|apply Kd.fH|apply Kd.eD));exact Bq.out⟩,⟨hb_⟩⟩
         ·rw [if_neg c15] at H
          exact absurd H (by simp)
        ·rw [if_neg c14] at H
         exact absurd H (by simp)
       ·rw [if_neg c11] at H
        exact absurd H (by simp)
      ·rw [if_neg c9] at H
       have c9b0 : decide (AZ < a0) = false:=decide_eq_false c9
       clear c9
       obtain rfl:=Option.some.inj H
       have CX:=rU (P:=Tryz.prog) Tryz.underlying92 Tryz.underlying5 Tryz.underlying9 (Kd.nS Bq.out)
       go_wp2
       go_ret
       exact ⟨by first|rfl|(simp [aY,aZ] <;> rfl)|(simp [*,aY,aZ] <;> rfl),hb_⟩
   ·rw [if_neg c6] at H
    exact absurd H (by simp)
  ·rw [if_neg c5] at H
   exact absurd H (by simp)
 ·replace c4:=Bool.eq_false_iff.mpr c4
  subst c4
  have H1 : (some (⟨#[]⟩ : ByteArray)) = some r:=by rw [if_neg (show ¬ (false = true) by decide)] at H;exact H
  clear H
  have H:=H1
  clear H1
  obtain rfl:=Option.some.inj H
  go_enter Tryz.func46,Tryz.ntmps46
  go_wp2_with (first|((with_reducible refine bF (f:=67) rfl ?_);refine dN (some 8) rfl rfl Tryz.func67 (by kernel_rfl) rfl #[.int .i64 a0] rfl (by (try simp only [List.map_toArray,List.map_cons,List.map_nil]);first|done|rfl|(simp only [List.length_drop,List.length_take];rfl)|(simp (disch:=first|omega|(simp at *;omega)) only [dO,dG,eH];rfl)) ?_;(with_reducible refine (jN.calls a0 false _ A3.out).mono ?_);rintro e w' ⟨rfl,⟨nd,rfl⟩⟩;refine ⟨_,rfl,?_⟩))
  go_ret
  exact ⟨by first|rfl|(simp [aY,aZ] <;> rfl)|(simp [*,aY,aZ] <;> rfl),hb_⟩
def jE.f (a0 : Int) (a1 : Int) : Option (Int):=if a0 = 0 then (some a1) else (some a0)
set_option maxHeartbeats 8000000 in
set_option maxRecDepth 100000 in
theorem jE.calls (a0 : Int) (a1 : Int) (r : Int) (w : World) (h : jE.f a0 a1 = some r) :
  Calls Tryz.prog 49 #[.int .i64 a0,.int .i64 a1] w fun e w'=>e = .returned (.int .i64 r) ∧ Drawn0 w w':=by
 have H : (if a0 = 0 then (some a1) else (some a0)) = some r:=h
 clear h
 by_cases c3 : a0 = 0
 ·rw [if_pos c3] at H
  have c3b0 : (a0 == 0) = true:=beq_iff_eq.mpr c3
  have c3b1 : (a0 != 0) = false:=bne_eq_false_iff_eq.mpr c3
  clear c3
  obtain rfl:=Option.some.inj H
  go_enter Tryz.func49,Tryz.ntmps49
  go_wp2
  go_ret
  exact ⟨by first|rfl|(simp;done)|(simp [*];done),by repeat (first|exact Drawn0.refl _|apply Drawn0.step)⟩
 ·rw [if_neg c3] at H
  have c3b0 : (a0 == 0) = false:=beq_eq_false_iff_ne.mpr c3
  have c3b1 : (a0 != 0) = true:=bne_iff_ne.mpr c3
  obtain rfl:=Option.some.inj H
  go_enter Tryz.func49,Tryz.ntmps49
  go_wp2
  go_ret
  exact ⟨by first|rfl|(simp;done)|(simp [*];done),by repeat (first|exact Drawn0.refl _|apply Drawn0.step)⟩
def mF.f (a0 : Int) : Option (Bool):=if a0 ≥ 56320 then (some (decide (a0 ≤ 57343))) else (some false)
set_option maxHeartbeats 8000000 in
set_option maxRecDepth 100000 in
theorem mF.calls (a0 : Int) (r : Bool) (w : World) (h : mF.f a0 = some r) :
  Calls Tryz.prog 85 #[.int .i32 a0] w fun e w'=>e = .returned (.bool r) ∧ Drawn0 w w':=by
 have H : (if a0 ≥ 56320 then (some (decide (a0 ≤ 57343))) else (some false)) = some r:=h
 clear h
 by_cases c2 : a0 ≥ 56320
 ·rw [if_pos c2] at H
  have c2b0 : decide (56320 ≤ a0) = true:=decide_eq_true c2
  clear c2
  obtain rfl:=Option.some.inj H
  go_enter Tryz.func85,Tryz.ntmps85
  go_wp2
  go_ret
  exact ⟨by first|rfl|(simp;done)|(simp [*];done),by repeat (first|exact Drawn0.refl _|apply Drawn0.step)⟩
 ·rw [if_neg c2] at H
  have c2b0 : decide (56320 ≤ a0) = false:=decide_eq_false c2
  clear c2
  obtain rfl:=Option.some.inj H
  go_enter Tryz.func85,Tryz.ntmps85
  go_wp2
  go_ret
  exact ⟨by first|rfl|(simp;done)|(simp [*];done),by repeat (first|exact Drawn0.refl _|apply Drawn0.step)⟩
def kS.f (a0 : Int) : Option (Bool):=if a0 ≥ 55296 then (some (decide (a0 ≤ 56319))) else (some false)
set_option maxHeartbeats 8000000 in
set_option maxRecDepth 100000 in
theorem kS.calls (a0 : Int) (r : Bool) (w : World) (h : kS.f a0 = some r) :
  Calls Tryz.prog 86 #[.int .i32 a0] w fun e w'=>e = .returned (.bool r) ∧ Drawn0 w w':=by
 have H : (if a0 ≥ 55296 then (some (decide (a0 ≤ 56319))) else (some false)) = some r:=h
 clear h
 by_cases c2 : a0 ≥ 55296
 ·rw [if_pos c2] at H
  have c2b0 : decide (55296 ≤ a0) = true:=decide_eq_true c2
  clear c2
  obtain rfl:=Option.some.inj H
  go_enter Tryz.func86,Tryz.ntmps86
  go_wp2
  go_ret
  exact ⟨by first|rfl|(simp;done)|(simp [*];done),by repeat (first|exact Drawn0.refl _|apply Drawn0.step)⟩
 ·rw [if_neg c2] at H
  have c2b0 : decide (55296 ≤ a0) = false:=decide_eq_false c2
  clear c2
  obtain rfl:=Option.some.inj H
  go_enter Tryz.func86,Tryz.ntmps86
  go_wp2
  go_ret
  exact ⟨by first|rfl|(simp;done)|(simp [*];done),by repeat (first|exact Drawn0.refl _|apply Drawn0.step)⟩
def kC.f (a0 : Int) : Option (Int):=if a0 ≥ 65 then (if a0 ≤ 70 then (some ((a0 + 32) % 256)) else (some a0)) else (some a0)
set_option maxHeartbeats 8000000 in
set_option maxRecDepth 100000 in
theorem kC.calls (a0 : Int) (r : Int) (w : World) (h : kC.f a0 = some r) :
  Calls Tryz.prog 92 #[.int .u8 a0] w fun e w'=>e = .returned (.int .u8 r) ∧ Drawn0 w w':=by
 have H : (if a0 ≥ 65 then (if a0 ≤ 70 then (some ((a0 + 32) % 256)) else (some a0)) else (some a0)) = some r:=h
 clear h
 by_cases c2 : a0 ≥ 65
 ·rw [if_pos c2] at H
  have c2b0 : decide (65 ≤ a0) = true:=decide_eq_true c2
  clear c2
  by_cases c3 : a0 ≤ 70
  ·rw [if_pos c3] at H
   have c3b0 : decide (a0 ≤ 70) = true:=decide_eq_true c3
   clear c3
   obtain rfl:=Option.some.inj H
   go_enter Tryz.func92,Tryz.ntmps92
   go_wp2
   go_ret
   exact ⟨by first|rfl|(simp;done)|(simp [*];done),by repeat (first|exact Drawn0.refl _|apply Drawn0.step)⟩
  ·rw [if_neg c3] at H
   have c3b0 : decide (a0 ≤ 70) = false:=decide_eq_false c3
   clear c3
   obtain rfl:=Option.some.inj H
   go_enter Tryz.func92,Tryz.ntmps92
   go_wp2
   go_ret
   exact ⟨by first|rfl|(simp;done)|(simp [*];done),by repeat (first|exact Drawn0.refl _|apply Drawn0.step)⟩
 ·rw [if_neg c2] at H
  have c2b0 : decide (65 ≤ a0) = false:=decide_eq_false c2
  clear c2
  obtain rfl:=Option.some.inj H
  go_enter Tryz.func92,Tryz.ntmps92
  go_wp2
  go_ret
  exact ⟨by first|rfl|(simp;done)|(simp [*];done),by repeat (first|exact Drawn0.refl _|apply Drawn0.step)⟩
end Go.Proofs.YtpflenjhmeaeoaaGreatDoor.GUt
