/- Written by this session's own program (wip/gen.py) out of the translation: plain Lean functions of the Go functions, and proofs that the calls come to their answers. No conditions beside those in the statements. -/
import Derived.Test.YtpmbdcljphpcnaaDoorGC2x0
namespace Go.Proofs.YtpmbdcljphpcnaaDoor.GC2
open Go.RowKit Go.Proofs.YtpmbdcljphpcnaaDoorW.PrintWords Go.Proofs.YtpmbdcljphpcnaaDoorW.PrintLast Go.Proofs.YtpmbdcljphpcnaaDoorW.PrintMore
attribute [local go_sem] fO fP gI gJ fF fG fQ fT
set_option linter.unusedVariables false
set_option linter.unusedSimpArgs false
def fJ.f (a0 : Int) : Option (Bool):=if a0 = 1 then (some true) else (if a0 = 2 then (some true) else (if a0 = 4 then (some true) else (if a0 = 8 then (some true) else (some false))))
set_option maxHeartbeats 8000000 in
set_option maxRecDepth 100000 in
theorem fJ.calls (a0 : Int) (r : Bool) (w : World) (h : fJ.f a0 = some r) :
  Calls Tryd.prog 71 #[.int .i64 a0] w fun e w'=>e = .returned (.bool r) ∧ Drawn0 w w':=by
 have H : (if a0 = 1 then (some true) else (if a0 = 2 then (some true) else (if a0 = 4 then (some true) else (if a0 = 8 then (some true) else (some false))))) = some r:=h
 clear h
 by_cases c2 : a0 = 1
 ·rw [if_pos c2] at H
  have c2b0 : (a0 == 1) = true:=beq_iff_eq.mpr c2
  have c2b1 : (a0 != 1) = false:=bne_eq_false_iff_eq.mpr c2
  clear c2
  obtain rfl:=Option.some.inj H
  go_enter Tryd.func71,Tryd.ntmps71
  go_wp2
  go_ret
  exact ⟨by first|rfl|(simp;done)|(simp [*];done),by repeat (first|exact Drawn0.refl _|apply Drawn0.step)⟩
 ·rw [if_neg c2] at H
  have c2b0 : (a0 == 1) = false:=beq_eq_false_iff_ne.mpr c2
  have c2b1 : (a0 != 1) = true:=bne_iff_ne.mpr c2
  by_cases c3 : a0 = 2
  ·rw [if_pos c3] at H
   have c3b0 : (a0 == 2) = true:=beq_iff_eq.mpr c3
   have c3b1 : (a0 != 2) = false:=bne_eq_false_iff_eq.mpr c3
   clear c3
   obtain rfl:=Option.some.inj H
   go_enter Tryd.func71,Tryd.ntmps71
   go_wp2
   go_ret
   exact ⟨by first|rfl|(simp;done)|(simp [*];done),by repeat (first|exact Drawn0.refl _|apply Drawn0.step)⟩
  ·rw [if_neg c3] at H
   have c3b0 : (a0 == 2) = false:=beq_eq_false_iff_ne.mpr c3
   have c3b1 : (a0 != 2) = true:=bne_iff_ne.mpr c3
   by_cases c4 : a0 = 4
   ·rw [if_pos c4] at H
    have c4b0 : (a0 == 4) = true:=beq_iff_eq.mpr c4
    have c4b1 : (a0 != 4) = false:=bne_eq_false_iff_eq.mpr c4
    clear c4
    obtain rfl:=Option.some.inj H
    go_enter Tryd.func71,Tryd.ntmps71
    go_wp2
    go_ret
    exact ⟨by first|rfl|(simp;done)|(simp [*];done),by repeat (first|exact Drawn0.refl _|apply Drawn0.step)⟩
   ·rw [if_neg c4] at H
    have c4b0 : (a0 == 4) = false:=beq_eq_false_iff_ne.mpr c4
    have c4b1 : (a0 != 4) = true:=bne_iff_ne.mpr c4
    by_cases c5 : a0 = 8
    ·rw [if_pos c5] at H
     have c5b0 : (a0 == 8) = true:=beq_iff_eq.mpr c5
     have c5b1 : (a0 != 8) = false:=bne_eq_false_iff_eq.mpr c5
     clear c5
     obtain rfl:=Option.some.inj H
     go_enter Tryd.func71,Tryd.ntmps71
     go_wp2
     go_ret
     exact ⟨by first|rfl|(simp;done)|(simp [*];done),by repeat (first|exact Drawn0.refl _|apply Drawn0.step)⟩
    ·rw [if_neg c5] at H
     have c5b0 : (a0 == 8) = false:=beq_eq_false_iff_ne.mpr c5
     have c5b1 : (a0 != 8) = true:=bne_iff_ne.mpr c5
     obtain rfl:=Option.some.inj H
     go_enter Tryd.func71,Tryd.ntmps71
     go_wp2
     go_ret
     exact ⟨by first|rfl|(simp;done)|(simp [*];done),by repeat (first|exact Drawn0.refl _|apply Drawn0.step)⟩
def bU.l0 : Nat → Int → Int → List Int → Int → Int → Option (ByteArray)
 | 0,_,_,_,_,_=>none
 | k + 1,x0,x1,x5,Bw,Ak=>if Ak < Bw then (if 0 ≤ (wrap64 (8 * Ak)) then (if 0 ≤ (wrap64 ((wrap64 (x0 - 1)) - Ak)) then (if (wrap64 ((wrap64 (x0 - 1)) - Ak)) < (x5.length : Int) then (bU.l0 k x0 x1 (x5.set ((wrap64 ((wrap64 (x0 - 1)) - Ak)) : Int).toNat ((shr .u64 x1 (wrap64 (8 * Ak))) % 256)) Bw (wrap64 (Ak + 1))) else (none)) else (none)) else (none)) else (some (strOfNums x5))
def bU.f (k : Nat) (a0 : Int) (a1 : Int) : Option (ByteArray):=(fJ.f a0).bind fun zZ=>(if zZ = true then (if 0 ≤ a0 then (if (a0 : Int).toNat ≤ 281474976710656 then (bU.l0 k a0 a1 (List.replicate (a0 : Int).toNat 0) a0 0) else (none)) else (none)) else (some (⟨#[]⟩ : ByteArray)))
theorem bU.dX : ∀ k,(∀ y0 y1 y2 y3 y4,LeO (bU.l0 k y0 y1 y2 y3 y4) (bU.l0 (k + 1) y0 y1 y2 y3 y4))
 | 0=>fun _ _ _ _ _ r h=>by simp [bU.l0] at h
 | k + 1=>by
  have z8:=bU.dX k
  ·intro y0 y1 y2 y3 y4
   unfold bU.l0
   repeat' first
   | (with_reducible exact z8 _ _ _ _ _)
   | (with_reducible exact LeO.refl _)
   | (with_reducible exact LeO.none _)
   | (with_reducible refine LeO.ite ?_ ?_)
   | (with_reducible refine LeO.bind ?_ (fun _=>?_))
   | exact z8 _ _ _ _ _
   | exact LeO.none _
   | refine LeO.ite ?_ ?_
   | refine LeO.bind ?_ (fun _=>?_)
theorem bU.mono : ∀ a0 a1 k,LeO (bU.f k a0 a1) (bU.f (k + 1) a0 a1):=by
 intro a0 a1 k
 have z8:=bU.dX k
 unfold bU.f
 repeat' first
   | (with_reducible exact z8 _ _ _ _ _)
   | (with_reducible exact LeO.refl _)
   | (with_reducible exact LeO.none _)
   | (with_reducible refine LeO.ite ?_ ?_)
   | (with_reducible refine LeO.bind ?_ (fun _=>?_))
   | exact z8 _ _ _ _ _
   | exact LeO.none _
   | refine LeO.ite ?_ ?_
   | refine LeO.bind ?_ (fun _=>?_)
set_option maxHeartbeats 8000000 in
set_option maxRecDepth 100000 in
theorem bU.calls (k : Nat) (a0 : Int) (a1 : Int) (r : ByteArray) (w : World) (h : bU.f k a0 a1 = some r) :
  Calls Tryd.prog 38 #[.int .i64 a0,.int .u64 a1] w fun e w'=>e = .returned (.string r) ∧ Below w.heap.size w w':=by
 have HB:=Aside0.mk (Below.refl w.heap.size w)
 have H : ((fJ.f a0).bind fun zZ=>(if zZ = true then (if 0 ≤ a0 then (if (a0 : Int).toNat ≤ 281474976710656 then (bU.l0 k a0 a1 (List.replicate (a0 : Int).toNat 0) a0 0) else (none)) else (none)) else (some (⟨#[]⟩ : ByteArray)))) = some r:=h
 clear h
 replace H:=Option.bind_eq_some_iff.mp H
 obtain ⟨zZ,AA,H⟩:=H
 replace H : (if zZ = true then (if 0 ≤ a0 then (if (a0 : Int).toNat ≤ 281474976710656 then (bU.l0 k a0 a1 (List.replicate (a0 : Int).toNat 0) a0 0) else (none)) else (none)) else (some (⟨#[]⟩ : ByteArray))) = some r:=H
 have A3:=Aside0.mk AA
 clear AA
 by_cases c4 : zZ = true
 ·subst c4
  have H1 : (if 0 ≤ a0 then (if (a0 : Int).toNat ≤ 281474976710656 then (bU.l0 k a0 a1 (List.replicate (a0 : Int).toNat 0) a0 0) else (none)) else (none)) = some r:=by rw [if_pos rfl] at H;exact H
  clear H
  have H:=H1
  clear H1
  by_cases c5 : 0 ≤ a0
  ·rw [if_pos c5] at H
   have c5b0:=eq_true c5
   have c5b1 : decide (0 ≤ a0) = true:=decide_eq_true c5
   clear c5
   by_cases c6 : (a0 : Int).toNat ≤ 281474976710656
   ·rw [if_pos c6] at H
    have c6b0:=eq_true c6
    have c6b1 : decide ((a0 : Int).toNat ≤ 281474976710656) = true:=decide_eq_true c6
    clear c6
    obtain ⟨y102,hy102⟩ : ∃ y_ : List Int,y_ = (List.replicate (a0 : Int).toNat 0):=⟨_,rfl⟩
    replace H : (bU.l0 k a0 a1 y102 a0 0) = some r:=by first|(rw [hy102];with_reducible exact H)|(have Al:=(Option.bind_some _ _).symm.trans H;rw [hy102];with_reducible exact Al)|(have Al:=(Option.bind_some _ _).symm.trans H;with_reducible exact Al)|with_reducible exact H|(rw [hy102];exact H)|exact H
    have Ah:=Aside0.mk hy102
    clear hy102
    have H':=Aside0.mk H
    clear H
    go_enter Tryd.func38,Tryd.ntmps38
    go_wp2_with (first|((with_reducible refine bA (f:=71) rfl ?_);refine cO (some 8) rfl rfl Tryd.func71 (by kernel_rfl) rfl #[.int .i64 a0] rfl (by (try simp only [List.map_toArray,List.map_cons,List.map_nil]);first|done|rfl|(simp only [List.length_drop,List.length_take];rfl)|(simp (disch:=first|omega|(simp at *;omega)) only [bY,bJ,dF];rfl)) ?_;(with_reducible refine (fJ.calls a0 true _ A3.out).mono ?_);rintro e w' ⟨rfl,⟨nd,rfl⟩⟩;refine ⟨_,rfl,?_⟩)|((with_reducible refine dw (N:=11) rfl ?_);refine Kd.wG (Kd.int .u8) _ 5 rfl (N:=11) rfl 69 _ _ rfl a0 rfl rfl Tryd.underlying69 (.int .u8 0) 1 info5 rfl (by decide) (by omega) 0 (ok:=fun _=>True) (okp:=fun _=>True) rfl (fun _ hk=>hk) trivial (of_decide_eq_true (by first|(with_reducible assumption)|assumption)) (Nat.le_trans (Nat.mul_le_mul_right _ (of_decide_eq_true (by first|(with_reducible assumption)|assumption) : a0.toNat ≤ 281474976710656)) (by omega)) (Below.refl _ _) (Nat.le_refl _) ?_;intro Bg w7 AB hb hg_ hnew_;clear hg_ hnew_;(first|rw [← Ah.out] at AB|(simp only [Int.reduceToNat] at AB;rw [← Ah.out] at AB));have zP:=Aside0.mk (Kd.mD AB (aW (by repeat (first|(with_reducible first|exact HB.out|apply aD|apply ak|apply aC)|exact HB.out))));have AJ:=Aside0.mk (aU (by repeat (first|(with_reducible first|exact HB.out|apply aD|apply ak|apply aC)|exact HB.out)) hb);clear HB;have AL:=zP;have HB:=AJ;clear zP AJ;clear hb AB))
    go_loopg [13] k (fun kq v13 w'=>∃ (zN : List Int) (zM : Int),v13 = .int .i64 zM ∧ Aside0 (bU.l0 kq a0 a1 zN a0 zM = some r) ∧ Aside0 (kq ≤ k) ∧ Aside0 (Kd.R (Kd.int .u8) 5 w' w.heap.size (fun _=>True) Bg zN) ∧ Aside0 (Below w.heap.size w w'))
    case atStart=>exact ⟨(y102),(0),(by first|rfl|(simp;done)|(simp [*];done)),H',⟨Nat.le_refl _⟩,⟨by (with_reducible repeat (first|apply Kd.fH|apply Kd.fI|apply Kd.gy));exact AL.out⟩,⟨by repeat (first|(with_reducible first|exact HB.out|apply aD|apply ak|apply aC)|exact HB.out)⟩⟩
    case round =>
     clear H'
     try clear p2
     try clear c3
     try clear c4
     try clear c5
     try clear c5b0
     try clear c5b1
     try clear c6
     try clear c6b0
     try clear c6b1
     try clear c7
     obtain ⟨zN,zM,rfl,HA,Bz,zV,HB⟩:=hrel
     cases gk with
     | zero=>exact absurd HA.out (by simp [bU.l0])
     | succ k1 =>
      have H:=HA.out
      clear HA
      simp only [bU.l0] at H
      by_cases c9 : zM < a0
      ·rw [if_pos c9] at H
       have c9b0 : decide (zM < a0) = true:=decide_eq_true c9
       clear c9
       obtain ⟨zR,Ab⟩ : ∃ j_ : Int,(wrap64 (8 * zM)) = j_:=⟨_,rfl⟩
       replace H : (if 0 ≤ (zR) then (if 0 ≤ (wrap64 ((wrap64 (a0 - 1)) - zM)) then (if (wrap64 ((wrap64 (a0 - 1)) - zM)) < (zN.length : Int) then (bU.l0 k1 a0 a1 (zN.set ((wrap64 ((wrap64 (a0 - 1)) - zM)) : Int).toNat ((shr .u64 a1 (zR)) % 256)) a0 (wrap64 (zM + 1))) else (none)) else (none)) else (none)) = some r:=by first|(rw [Ab] at H;exact H)|(simp only [Ab] at H ⊢;exact H)
       have hji10w : (IntKind.i64.wrap (8 * zM)) = zR:=(bI _).trans Ab
       by_cases c11 : 0 ≤ (zR)
       ·rw [if_pos c11] at H
        have c11b0:=eq_true c11
        have c11b1 : decide (0 ≤ (zR)) = true:=decide_eq_true c11
        clear c11
        obtain ⟨zW,zX⟩ : ∃ j_ : Int,(shr .u64 a1 (zR)) = j_:=⟨_,rfl⟩
        replace H : (if 0 ≤ (wrap64 ((wrap64 (a0 - 1)) - zM)) then (if (wrap64 ((wrap64 (a0 - 1)) - zM)) < (zN.length : Int) then (bU.l0 k1 a0 a1 (zN.set ((wrap64 ((wrap64 (a0 - 1)) - zM)) : Int).toNat ((zW) % 256)) a0 (wrap64 (zM + 1))) else (none)) else (none)) = some r:=by first|(rw [zX] at H;exact H)|(simp only [zX] at H ⊢;exact H)
        have Bh : (a1 / 2 ^ min (zR).toNat 64) = zW:=zX
        have hji12z : (zR) ≤ 64 → (a1 / 2 ^ (zR).toNat) = zW:=rW zX
        obtain ⟨zO,Ac⟩ : ∃ j_ : Int,(wrap64 ((wrap64 (a0 - 1)) - zM)) = j_:=⟨_,rfl⟩
        replace H : (if 0 ≤ (zO) then (if (zO) < (zN.length : Int) then (bU.l0 k1 a0 a1 (zN.set ((zO) : Int).toNat ((zW) % 256)) a0 (wrap64 (zM + 1))) else (none)) else (none)) = some r:=by first|(rw [Ac] at H;exact H)|(simp only [Ac] at H ⊢;exact H)
        have hji13w : (IntKind.i64.wrap ((wrap64 (a0 - 1)) - zM)) = zO:=(bI _).trans Ac
        by_cases c14 : 0 ≤ (zO)
        ·rw [if_pos c14] at H
         have c14b0 : decide (0 ≤ (zO)) = true:=decide_eq_true c14
         clear c14
         by_cases c15 : (zO) < (zN.length : Int)
         ·rw [if_pos c15] at H
          have c15b0 : decide ((zO) < (zN.length : Int)) = true:=decide_eq_true c15
          clear c15
          obtain ⟨Am,zS⟩ : ∃ y_ : List Int,y_ = (zN.set ((zO) : Int).toNat ((zW) % 256)):=⟨_,rfl⟩
          replace H : (bU.l0 k1 a0 a1 Am a0 (wrap64 (zM + 1))) = some r:=by first|(rw [zS];with_reducible exact H)|(have Al:=(Option.bind_some _ _).symm.trans H;rw [zS];with_reducible exact Al)|(have Al:=(Option.bind_some _ _).symm.trans H;with_reducible exact Al)|with_reducible exact H|(rw [zS];exact H)|exact H
          have AO:=Aside0.mk zS
          clear zS
          have H':=Aside0.mk H
          clear H
          have p16 : 0 ≤ ((zO) : Int):=of_decide_eq_true (by first|(with_reducible assumption)|assumption)
          have q16 : ((zO) : Int) < ((zN.length : Int) : Int):=of_decide_eq_true (by first|(with_reducible assumption)|assumption)
          obtain ⟨Ap,Bj,AP,AQ,Bl,BG,AU⟩:=Kd.wE zV.out (by omega)
          (first|cases AP|(injection AP with ea_ en_ ec_;(first|subst ea_|(injection ea_ with ea_;subst ea_));subst ec_;clear en_))
          have Bn:=Aside0.mk AQ
          have BH:=Aside0.mk AU
          clear AQ Bl AU
          obtain ⟨Bo,Bp⟩:=Kd.u6 0 zV.out ((zO) : Int) p16 q16
          replace p16:=eq_true p16
          replace q16:=eq_true q16
          have Aq:=Kd.wK zV.out ((zO) : Int) ((zW) % 256)
          go_wp2_with (first|((with_reducible refine qD (t:=5) (p:=26) rfl ?_);refine pI (t:=5) (p:=26) (v:=?vo_w18) (w1:=(wr.setCell ⟨Ap,((zO) : Int).toNat,none⟩ (.int .u8 ((zW) % 256)))) ?hg ?ho ?hn ?hr ?_;(case ho=>rfl);(case hg=>rfl);(case hn=>rfl);(case hr=>first|(go_simp;done)|(go_simp;rfl));intro Bq hw;have hg : wr.grownBy Bq (some Ap):=(by rw [hw];exact Aq.2);have hp_ : Kd.R (Kd.int .u8) 5 Bq w.heap.size (fun _=>True) (.slice (some ⟨Ap,0,none⟩) zN.length Bj) Am:=(by rw [hw,AO.out];exact Aq.1);clear Aq;have zP:=Aside0.mk (hp_);have AJ:=Aside0.mk ((by rw [hw];exact aA (HB.out) Bn.out : Below w.heap.size w Bq));clear zV;clear HB;have zV:=zP;have HB:=AJ;clear zP AJ;clear hg hw hp_))
          go_roundg k1
          case measure=>have:=Bz.out;omega
          case rel=>exact ⟨(Am),(wrap64 (zM + 1)),(by first|rfl|(simp;done)|(simp [*];done)),H',⟨by have:=Bz.out;omega⟩,⟨by (with_reducible repeat (first|apply Kd.fH|apply Kd.fI|apply Kd.gy));exact zV.out⟩,⟨by repeat (first|(with_reducible first|exact HB.out|apply aD|apply ak|apply aC)|exact HB.out)⟩⟩
         ·rw [if_neg c15] at H
          exact absurd H (by simp)
        ·rw [if_neg c14] at H
         exact absurd H (by simp)
       ·rw [if_neg c11] at H
        exact absurd H (by simp)
      ·rw [if_neg c9] at H
       have c9b0 : decide (zM < a0) = false:=decide_eq_false c9
       clear c9
       obtain rfl:=Option.some.inj H
       have BA:=qz (P:=Tryd.prog) Tryd.underlying69 Tryd.underlying5 Tryd.underlying9 (Kd.mP zV.out)
       go_wp2
       go_ret
       exact ⟨by first|rfl|(simp [aY,aZ] <;> rfl)|(simp [*,aY,aZ] <;> rfl),by repeat (first|(with_reducible first|exact HB.out|apply aD|apply ak|apply aC)|exact HB.out)⟩
   ·rw [if_neg c6] at H
    exact absurd H (by simp)
  ·rw [if_neg c5] at H
   exact absurd H (by simp)
 ·replace c4:=Bool.eq_false_iff.mpr c4
  subst c4
  have H1 : (some (⟨#[]⟩ : ByteArray)) = some r:=by rw [if_neg (show ¬ (false = true) by decide)] at H;exact H
  clear H
  have H:=H1
  clear H1
  obtain rfl:=Option.some.inj H
  go_enter Tryd.func38,Tryd.ntmps38
  go_wp2_with (first|((with_reducible refine bA (f:=71) rfl ?_);refine cO (some 8) rfl rfl Tryd.func71 (by kernel_rfl) rfl #[.int .i64 a0] rfl (by (try simp only [List.map_toArray,List.map_cons,List.map_nil]);first|done|rfl|(simp only [List.length_drop,List.length_take];rfl)|(simp (disch:=first|omega|(simp at *;omega)) only [bY,bJ,dF];rfl)) ?_;(with_reducible refine (fJ.calls a0 false _ A3.out).mono ?_);rintro e w' ⟨rfl,⟨nd,rfl⟩⟩;refine ⟨_,rfl,?_⟩))
  go_ret
  exact ⟨by first|rfl|(simp [aY,aZ] <;> rfl)|(simp [*,aY,aZ] <;> rfl),by repeat (first|(with_reducible first|exact HB.out|apply aD|apply ak|apply aC)|exact HB.out)⟩
def eP.f (k : Nat) (a0 : ByteArray) : Option (ByteArray × Int):=if (a0.size : Int) > 4096 then (some ((⟨#[]⟩ : ByteArray),2)) else ((bU.f k 2 (IntKind.u64.wrap ((a0.size : Int)))).bind fun zQ=>(if zQ.size + a0.size ≤ 9223372036854775807 then (some (zQ ++ a0,0)) else (none)))
theorem eP.mono : ∀ a0 k,LeO (eP.f k a0) (eP.f (k + 1) a0):=by
 intro a0 k
 unfold eP.f
 repeat' first
   | (with_reducible exact bU.mono _ _ _)
   | (with_reducible exact LeO.refl _)
   | (with_reducible exact LeO.none _)
   | (with_reducible refine LeO.ite ?_ ?_)
   | (with_reducible refine LeO.bind ?_ (fun _=>?_))
   | exact bU.mono _ _ _
   | exact LeO.none _
   | refine LeO.ite ?_ ?_
   | refine LeO.bind ?_ (fun _=>?_)
set_option maxHeartbeats 8000000 in
set_option maxRecDepth 100000 in
theorem eP.calls (k : Nat) (a0 : ByteArray) (r1 : ByteArray) (r2 : Int) (w : World) (h : eP.f k a0 = some (r1,r2)) :
  Calls Tryd.prog 39 #[.string a0] w fun e w'=>e = .returned (.tuple #[.string r1,.int .i64 r2]) ∧ Below w.heap.size w w':=by
 have HB:=Aside0.mk (Below.refl w.heap.size w)
 have H : (if (a0.size : Int) > 4096 then (some ((⟨#[]⟩ : ByteArray),2)) else ((bU.f k 2 (IntKind.u64.wrap ((a0.size : Int)))).bind fun zQ=>(if zQ.size + a0.size ≤ 9223372036854775807 then (some (zQ ++ a0,0)) else (none)))) = some (r1,r2):=h
 clear h
 by_cases c2 : (a0.size : Int) > 4096
 ·rw [if_pos c2] at H
  have c2b0 : decide (4096 < (a0.size : Int)) = true:=decide_eq_true c2
  have c2b1 : decide (4096 < a0.size) = true:=decide_eq_true (by omega)
  clear c2
  simp only [Option.some.injEq,Prod.mk.injEq] at H
  obtain ⟨rfl,rfl⟩:=H
  go_enter Tryd.func39,Tryd.ntmps39
  go_wp2
  go_ret2
  exact ⟨by first|rfl|(simp [aY,aZ] <;> rfl)|(simp [*,aY,aZ] <;> rfl),by repeat (first|(with_reducible first|exact HB.out|apply aD|apply ak|apply aC)|exact HB.out)⟩
 ·rw [if_neg c2] at H
  have c2b0 : decide (4096 < (a0.size : Int)) = false:=decide_eq_false c2
  have c2b1 : decide (4096 < a0.size) = false:=decide_eq_false (by omega)
  clear c2
  replace H:=Option.bind_eq_some_iff.mp H
  obtain ⟨zQ,AA,H⟩:=H
  replace H : (if zQ.size + a0.size ≤ 9223372036854775807 then (some (zQ ++ a0,0)) else (none)) = some (r1,r2):=H
  have A3:=Aside0.mk AA
  clear AA
  by_cases c4 : zQ.size + a0.size ≤ 9223372036854775807
  ·rw [if_pos c4] at H
   have c4b0:=eq_true c4
   have c4b1 : decide (zQ.size + a0.size ≤ 9223372036854775807) = true:=decide_eq_true c4
   try have c4b2 : (9223372036854775807 < zQ.size + a0.size) = False:=eq_false (Nat.not_lt.2 c4)
   simp only [Option.some.injEq,Prod.mk.injEq] at H
   obtain ⟨rfl,rfl⟩:=H
   go_enter Tryd.func39,Tryd.ntmps39
   go_wp2_with (first|((with_reducible refine bA (f:=38) rfl ?_);refine cO (some 10) rfl rfl Tryd.func38 (by kernel_rfl) rfl #[.int .i64 2,.int .u64 (IntKind.u64.wrap ((a0.size : Int)))] rfl (by (try simp only [List.map_toArray,List.map_cons,List.map_nil]);first|done|rfl|(simp only [List.length_drop,List.length_take];rfl)|(simp (disch:=first|omega|(simp at *;omega)) only [bY,bJ,dF];rfl)) ?_;(with_reducible refine (bU.calls k 2 (IntKind.u64.wrap ((a0.size : Int))) zQ _ A3.out).mono ?_);rintro e w5 ⟨rfl,hb⟩;refine ⟨_,rfl,?_⟩;have zP:=Aside0.mk (aU (by repeat (first|(with_reducible first|exact HB.out|apply aD|apply ak|apply aC)|exact HB.out)) hb);clear HB;have HB:=zP;clear zP;(try clear hb);(try clear hb2);(try clear hk);(try clear hi)))
   go_ret2
   exact ⟨by first|rfl|(simp [aY,aZ] <;> rfl)|(simp [*,aY,aZ] <;> rfl),by repeat (first|(with_reducible first|exact HB.out|apply aD|apply ak|apply aC)|exact HB.out)⟩
  ·rw [if_neg c4] at H
   exact absurd H (by simp)
def dV.f (k : Nat)  : Option (Bool):=(eP.f k (⟨#[97]⟩ : ByteArray)).bind fun zT=>((bU.f k 2 258).bind fun t109=>(if t109.toList = ([1,2] : List UInt8) then (if zT.1.toList = ([0,1,97] : List UInt8) then (some (zT.2 == 0)) else (some false)) else (some false)))
theorem dV.mono : ∀ k,LeO (dV.f k ) (dV.f (k + 1) ):=by
 intro  k
 unfold dV.f
 repeat' first
   | (with_reducible exact bU.mono _ _ _)
   | (with_reducible exact eP.mono _ _)
   | (with_reducible exact LeO.refl _)
   | (with_reducible exact LeO.none _)
   | (with_reducible refine LeO.ite ?_ ?_)
   | (with_reducible refine LeO.bind ?_ (fun _=>?_))
   | exact bU.mono _ _ _
   | exact eP.mono _ _
   | exact LeO.none _
   | refine LeO.ite ?_ ?_
   | refine LeO.bind ?_ (fun _=>?_)
set_option maxHeartbeats 8000000 in
set_option maxRecDepth 100000 in
theorem dV.calls (k : Nat)  (r : Bool) (w : World) (h : dV.f k  = some r) :
  Calls Tryd.prog 33 #[] w fun e w'=>e = .returned (.bool r) ∧ Below w.heap.size w w':=by
 have HB:=Aside0.mk (Below.refl w.heap.size w)
 have H : ((eP.f k (⟨#[97]⟩ : ByteArray)).bind fun zT=>((bU.f k 2 258).bind fun t109=>(if t109.toList = ([1,2] : List UInt8) then (if zT.1.toList = ([0,1,97] : List UInt8) then (some (zT.2 == 0)) else (some false)) else (some false)))) = some r:=h
 clear h
 replace H:=Option.bind_eq_some_iff.mp H
 obtain ⟨⟨t107,Ad⟩,BF,H⟩:=H
 replace H : ((bU.f k 2 258).bind fun t109=>(if t109.toList = ([1,2] : List UInt8) then (if t107.toList = ([0,1,97] : List UInt8) then (some (Ad == 0)) else (some false)) else (some false))) = some r:=H
 have A1:=Aside0.mk BF
 clear BF
 replace H:=Option.bind_eq_some_iff.mp H
 obtain ⟨t109,Ar,H⟩:=H
 replace H : (if t109.toList = ([1,2] : List UInt8) then (if t107.toList = ([0,1,97] : List UInt8) then (some (Ad == 0)) else (some false)) else (some false)) = some r:=H
 have A2:=Aside0.mk Ar
 clear Ar
 by_cases c3 : t109.toList = ([1,2] : List UInt8)
 ·rw [if_pos c3] at H
  have c3b0 : (t109.toList == ([1,2] : List UInt8)) = true:=beq_iff_eq.mpr c3
  have c3b1 : (t109.toList != ([1,2] : List UInt8)) = false:=bne_eq_false_iff_eq.mpr c3
  clear c3
  by_cases c4 : t107.toList = ([0,1,97] : List UInt8)
  ·rw [if_pos c4] at H
   have c4b0 : (t107.toList == ([0,1,97] : List UInt8)) = true:=beq_iff_eq.mpr c4
   have c4b1 : (t107.toList != ([0,1,97] : List UInt8)) = false:=bne_eq_false_iff_eq.mpr c4
   clear c4
   obtain rfl:=Option.some.inj H
   go_enter Tryd.func33,Tryd.ntmps33
   go_wp2_with (first|((with_reducible refine bA (f:=39) rfl ?_);refine cO (some 4) rfl rfl Tryd.func39 (by kernel_rfl) rfl #[.string (⟨#[97]⟩ : ByteArray)] rfl (by (try simp only [List.map_toArray,List.map_cons,List.map_nil]);first|done|rfl|(simp only [List.length_drop,List.length_take];rfl)|(simp (disch:=first|omega|(simp at *;omega)) only [bY,bJ,dF];rfl)) ?_;(with_reducible refine (eP.calls k (⟨#[97]⟩ : ByteArray) t107 Ad _ A1.out).mono ?_);rintro e w5 ⟨rfl,hb⟩;refine ⟨_,rfl,?_⟩;have zP:=Aside0.mk (aU (by repeat (first|(with_reducible first|exact HB.out|apply aD|apply ak|apply aC)|exact HB.out)) hb);clear HB;have HB:=zP;clear zP;(try clear hb);(try clear hb2);(try clear hk);(try clear hi))|((with_reducible refine bA (f:=38) rfl ?_);refine cO (some 7) rfl rfl Tryd.func38 (by kernel_rfl) rfl #[.int .i64 2,.int .u64 258] rfl (by (try simp only [List.map_toArray,List.map_cons,List.map_nil]);first|done|rfl|(simp only [List.length_drop,List.length_take];rfl)|(simp (disch:=first|omega|(simp at *;omega)) only [bY,bJ,dF];rfl)) ?_;(with_reducible refine (bU.calls k 2 258 t109 _ A2.out).mono ?_);rintro e w6 ⟨rfl,hb⟩;refine ⟨_,rfl,?_⟩;have zP:=Aside0.mk (aU (by repeat (first|(with_reducible first|exact HB.out|apply aD|apply ak|apply aC)|exact HB.out)) hb);clear HB;have HB:=zP;clear zP;(try clear hb);(try clear hb2);(try clear hk);(try clear hi)))
   go_ret
   exact ⟨by first|rfl|(simp [aY,aZ] <;> rfl)|(simp [*,aY,aZ] <;> rfl),by repeat (first|(with_reducible first|exact HB.out|apply aD|apply ak|apply aC)|exact HB.out)⟩
  ·rw [if_neg c4] at H
   have c4b0 : (t107.toList == ([0,1,97] : List UInt8)) = false:=beq_eq_false_iff_ne.mpr c4
   have c4b1 : (t107.toList != ([0,1,97] : List UInt8)) = true:=bne_iff_ne.mpr c4
   obtain rfl:=Option.some.inj H
   go_enter Tryd.func33,Tryd.ntmps33
   go_wp2_with (first|((with_reducible refine bA (f:=39) rfl ?_);refine cO (some 4) rfl rfl Tryd.func39 (by kernel_rfl) rfl #[.string (⟨#[97]⟩ : ByteArray)] rfl (by (try simp only [List.map_toArray,List.map_cons,List.map_nil]);first|done|rfl|(simp only [List.length_drop,List.length_take];rfl)|(simp (disch:=first|omega|(simp at *;omega)) only [bY,bJ,dF];rfl)) ?_;(with_reducible refine (eP.calls k (⟨#[97]⟩ : ByteArray) t107 Ad _ A1.out).mono ?_);rintro e w7 ⟨rfl,hb⟩;refine ⟨_,rfl,?_⟩;have zP:=Aside0.mk (aU (by repeat (first|(with_reducible first|exact HB.out|apply aD|apply ak|apply aC)|exact HB.out)) hb);clear HB;have HB:=zP;clear zP;(try clear hb);(try clear hb2);(try clear hk);(try clear hi))|((with_reducible refine bA (f:=38) rfl ?_);refine cO (some 7) rfl rfl Tryd.func38 (by kernel_rfl) rfl #[.int .i64 2,.int .u64 258] rfl (by (try simp only [List.map_toArray,List.map_cons,List.map_nil]);first|done|rfl|(simp only [List.length_drop,List.length_take];rfl)|(simp (disch:=first|omega|(simp at *;omega)) only [bY,bJ,dF];rfl)) ?_;(with_reducible refine (bU.calls k 2 258 t109 _ A2.out).mono ?_);rintro e w8 ⟨rfl,hb⟩;refine ⟨_,rfl,?_⟩;have zP:=Aside0.mk (aU (by repeat (first|(with_reducible first|exact HB.out|apply aD|apply ak|apply aC)|exact HB.out)) hb);clear HB;have HB:=zP;clear zP;(try clear hb);(try clear hb2);(try clear hk);(try clear hi)))
   go_ret
   exact ⟨by first|rfl|(simp [aY,aZ] <;> rfl)|(simp [*,aY,aZ] <;> rfl),by repeat (first|(with_reducible first|exact HB.out|apply aD|apply ak|apply aC)|exact HB.out)⟩
 ·rw [if_neg c3] at H
  have c3b0 : (t109.toList == ([1,2] : List UInt8)) = false:=beq_eq_false_iff_ne.mpr c3
  have c3b1 : (t109.toList != ([1,2] : List UInt8)) = true:=bne_iff_ne.mpr c3
  obtain rfl:=Option.some.inj H
  go_enter Tryd.func33,Tryd.ntmps33
  go_wp2_with (first|((with_reducible refine bA (f:=39) rfl ?_);refine cO (some 4) rfl rfl Tryd.func39 (by kernel_rfl) rfl #[.string (⟨#[97]⟩ : ByteArray)] rfl (by (try simp only [List.map_toArray,List.map_cons,List.map_nil]);first|done|rfl|(simp only [List.length_drop,List.length_take];rfl)|(simp (disch:=first|omega|(simp at *;omega)) only [bY,bJ,dF];rfl)) ?_;(with_reducible refine (eP.calls k (⟨#[97]⟩ : ByteArray) t107 Ad _ A1.out).mono ?_);rintro e w9 ⟨rfl,hb⟩;refine ⟨_,rfl,?_⟩;have zP:=Aside0.mk (aU (by repeat (first|(with_reducible first|exact HB.out|apply aD|apply ak|apply aC)|exact HB.out)) hb);clear HB;have HB:=zP;clear zP;(try clear hb);(try clear hb2);(try clear hk);(try clear hi))|((with_reducible refine bA (f:=38) rfl ?_);refine cO (some 7) rfl rfl Tryd.func38 (by kernel_rfl) rfl #[.int .i64 2,.int .u64 258] rfl (by (try simp only [List.map_toArray,List.map_cons,List.map_nil]);first|done|rfl|(simp only [List.length_drop,List.length_take];rfl)|(simp (disch:=first|omega|(simp at *;omega)) only [bY,bJ,dF];rfl)) ?_;(with_reducible refine (bU.calls k 2 258 t109 _ A2.out).mono ?_);rintro e BI ⟨rfl,hb⟩;refine ⟨_,rfl,?_⟩;have zP:=Aside0.mk (aU (by repeat (first|(with_reducible first|exact HB.out|apply aD|apply ak|apply aC)|exact HB.out)) hb);clear HB;have HB:=zP;clear zP;(try clear hb);(try clear hb2);(try clear hk);(try clear hi)))
  go_ret
  exact ⟨by first|rfl|(simp [aY,aZ] <;> rfl)|(simp [*,aY,aZ] <;> rfl),by repeat (first|(with_reducible first|exact HB.out|apply aD|apply ak|apply aC)|exact HB.out)⟩
def dY.f (a0 : Int) : Option (Bool):=if a0 ≥ 97 then (some (decide (a0 ≤ 122))) else (some false)
set_option maxHeartbeats 8000000 in
set_option maxRecDepth 100000 in
theorem dY.calls (a0 : Int) (r : Bool) (w : World) (h : dY.f a0 = some r) :
  Calls Tryd.prog 73 #[.int .u8 a0] w fun e w'=>e = .returned (.bool r) ∧ Drawn0 w w':=by
 have H : (if a0 ≥ 97 then (some (decide (a0 ≤ 122))) else (some false)) = some r:=h
 clear h
 by_cases c2 : a0 ≥ 97
 ·rw [if_pos c2] at H
  have c2b0 : decide (97 ≤ a0) = true:=decide_eq_true c2
  clear c2
  obtain rfl:=Option.some.inj H
  go_enter Tryd.func73,Tryd.ntmps73
  go_wp2
  go_ret
  exact ⟨by first|rfl|(simp;done)|(simp [*];done),by repeat (first|exact Drawn0.refl _|apply Drawn0.step)⟩
 ·rw [if_neg c2] at H
  have c2b0 : decide (97 ≤ a0) = false:=decide_eq_false c2
  clear c2
  obtain rfl:=Option.some.inj H
  go_enter Tryd.func73,Tryd.ntmps73
  go_wp2
  go_ret
  exact ⟨by first|rfl|(simp;done)|(simp [*];done),by repeat (first|exact Drawn0.refl _|apply Drawn0.step)⟩
def dK.f (a0 : Int) : Option (Bool):=if a0 ≥ 48 then (some (decide (a0 ≤ 57))) else (some false)
set_option maxHeartbeats 8000000 in
set_option maxRecDepth 100000 in
theorem dK.calls (a0 : Int) (r : Bool) (w : World) (h : dK.f a0 = some r) :
  Calls Tryd.prog 74 #[.int .u8 a0] w fun e w'=>e = .returned (.bool r) ∧ Drawn0 w w':=by
 have H : (if a0 ≥ 48 then (some (decide (a0 ≤ 57))) else (some false)) = some r:=h
 clear h
 by_cases c2 : a0 ≥ 48
 ·rw [if_pos c2] at H
  have c2b0 : decide (48 ≤ a0) = true:=decide_eq_true c2
  clear c2
  obtain rfl:=Option.some.inj H
  go_enter Tryd.func74,Tryd.ntmps74
  go_wp2
  go_ret
  exact ⟨by first|rfl|(simp;done)|(simp [*];done),by repeat (first|exact Drawn0.refl _|apply Drawn0.step)⟩
 ·rw [if_neg c2] at H
  have c2b0 : decide (48 ≤ a0) = false:=decide_eq_false c2
  clear c2
  obtain rfl:=Option.some.inj H
  go_enter Tryd.func74,Tryd.ntmps74
  go_wp2
  go_ret
  exact ⟨by first|rfl|(simp;done)|(simp [*];done),by repeat (first|exact Drawn0.refl _|apply Drawn0.step)⟩
mutual
def bB.j0 : Nat → ByteArray → Bool → Option (Bool)
 | 0,_,_=>none
 | k + 1,x0,x23=>if x23 = true then (some false) else (bB.l0 k x0 (x0.size : Int) 0)
def bB.l0 : Nat → ByteArray → Int → Int → Option (Bool)
 | 0,_,_,_=>none
 | k + 1,x0,x25,Ae=>if Ae < x25 then (if 0 ≤ Ae then (if Ae < (x0.size : Int) then ((dY.f (bt x0 Ae)).bind fun Af=>(if Af = true then (bB.l0 k x0 x25 (wrap64 (Ae + 1))) else ((dK.f (bt x0 Ae)).bind fun zU=>(if zU = true then (bB.l0 k x0 x25 (wrap64 (Ae + 1))) else (if (bt x0 Ae) = 45 then (bB.l0 k x0 x25 (wrap64 (Ae + 1))) else (some false)))))) else (none)) else (none)) else (some true)
end
def bB.f (k : Nat) (a0 : ByteArray) : Option (Bool):=if a0.toList = ([] : List UInt8) then (bB.j0 k a0 true) else (if (a0.size : Int) > 63 then (bB.j0 k a0 true) else (if 0 < (a0.size : Int) then (if (bt a0 0) = 45 then (bB.j0 k a0 true) else (if 0 ≤ (wrap64 ((a0.size : Int) - 1)) then (if (wrap64 ((a0.size : Int) - 1)) < (a0.size : Int) then (bB.j0 k a0 ((bt a0 (wrap64 ((a0.size : Int) - 1))) == 45)) else (none)) else (none))) else (none)))
theorem bB.dX : ∀ k,(∀ y0 y1,LeO (bB.j0 k y0 y1) (bB.j0 (k + 1) y0 y1)) ∧ (∀ y0 y1 y2,LeO (bB.l0 k y0 y1 y2) (bB.l0 (k + 1) y0 y1 y2))
 | 0=>⟨fun _ _ r h=>by simp [bB.j0] at h,fun _ _ _ r h=>by simp [bB.l0] at h⟩
 | k + 1=>by
  obtain ⟨z8,ih1⟩:=bB.dX k
  refine ⟨?_,?_⟩
  ·intro y0 y1
   unfold bB.j0
   repeat' first
   | (with_reducible exact z8 _ _)
   | (with_reducible exact ih1 _ _ _)
   | (with_reducible exact LeO.refl _)
   | (with_reducible exact LeO.none _)
   | (with_reducible refine LeO.ite ?_ ?_)
   | (with_reducible refine LeO.bind ?_ (fun _=>?_))
   | exact z8 _ _
   | exact ih1 _ _ _
   | exact LeO.none _
   | refine LeO.ite ?_ ?_
   | refine LeO.bind ?_ (fun _=>?_)
  ·intro y0 y1 y2
   unfold bB.l0
   repeat' first
   | (with_reducible exact z8 _ _)
   | (with_reducible exact ih1 _ _ _)
   | (with_reducible exact LeO.refl _)
   | (with_reducible exact LeO.none _)
   | (with_reducible refine LeO.ite ?_ ?_)
   | (with_reducible refine LeO.bind ?_ (fun _=>?_))
   | exact z8 _ _
   | exact ih1 _ _ _
   | exact LeO.none _
   | refine LeO.ite ?_ ?_
   | refine LeO.bind ?_ (fun _=>?_)
theorem bB.mono : ∀ a0 k,LeO (bB.f k a0) (bB.f (k + 1) a0):=by
 intro a0 k
 obtain ⟨z8,ih1⟩:=bB.dX k
 unfold bB.f
 repeat' first
   | (with_reducible exact z8 _ _)
   | (with_reducible exact ih1 _ _ _)
   | (with_reducible exact LeO.refl _)
   | (with_reducible exact LeO.none _)
   | (with_reducible refine LeO.ite ?_ ?_)
   | (with_reducible refine LeO.bind ?_ (fun _=>?_))
   | exact z8 _ _
   | exact ih1 _ _ _
   | exact LeO.none _
   | refine LeO.ite ?_ ?_
   | refine LeO.bind ?_ (fun _=>?_)
set_option maxHeartbeats 8000000 in
set_option maxRecDepth 100000 in
theorem bB.calls (k : Nat) (a0 : ByteArray) (r : Bool) (w : World) (h : bB.f k a0 = some r) :
  Calls Tryd.prog 56 #[.string a0] w fun e w'=>e = .returned (.bool r) ∧ Drawn0 w w':=by
 have H : (if a0.toList = ([] : List UInt8) then (bB.j0 k a0 true) else (if (a0.size : Int) > 63 then (bB.j0 k a0 true) else (if 0 < (a0.size : Int) then (if (bt a0 0) = 45 then (bB.j0 k a0 true) else (if 0 ≤ (wrap64 ((a0.size : Int) - 1)) then (if (wrap64 ((a0.size : Int) - 1)) < (a0.size : Int) then (bB.j0 k a0 ((bt a0 (wrap64 ((a0.size : Int) - 1))) == 45)) else (none)) else (none))) else (none)))) = some r:=h
 clear h
 have Br:=Aside0.mk H
 clear H
 go_enter Tryd.func56,Tryd.ntmps56
 go_upto_region 1 with (fail)
 go_cut [23] (fun v23 wc=>∃ (kq : Nat) (zY : Bool),v23 = .bool zY ∧ Aside0 (bB.j0 kq a0 zY = some r) ∧ Aside0 (kq ≤ k) ∧ Drawn0 w wc)
 case first =>
  have H:=Br.out
  clear Br
  by_cases c3 : a0.toList = ([] : List UInt8)
  ·rw [if_pos c3] at H
   have c3b0 : (a0.toList == ([] : List UInt8)) = true:=beq_iff_eq.mpr c3
   have c3b1 : (a0.toList != ([] : List UInt8)) = false:=bne_eq_false_iff_eq.mpr c3
   clear c3
   (first|rw [c3b0]|(simp only [bI,bN];rw [c3b0])|skip)
   have H':=Aside0.mk H
   clear H
   go_wp2
   go_meet
   case rel=>exact ⟨_,(true),(by first|rfl|(simp;done)|(simp [*];done)),H',⟨by first|omega|exact Nat.le_refl _⟩,by repeat (first|exact Drawn0.refl _|apply Drawn0.step)⟩
  ·rw [if_neg c3] at H
   have c3b0 : (a0.toList == ([] : List UInt8)) = false:=beq_eq_false_iff_ne.mpr c3
   have c3b1 : (a0.toList != ([] : List UInt8)) = true:=bne_iff_ne.mpr c3
   (first|rw [c3b0]|(simp only [bI,bN];rw [c3b0])|skip)
   by_cases c4 : (a0.size : Int) > 63
   ·rw [if_pos c4] at H
    have c4b0 : decide (63 < (a0.size : Int)) = true:=decide_eq_true c4
    have c4b1 : decide (63 < a0.size) = true:=decide_eq_true (by omega)
    clear c4
    have H':=Aside0.mk H
    clear H
    go_wp2
    go_meet
    case rel=>exact ⟨_,(true),(by first|rfl|(simp;done)|(simp [*];done)),H',⟨by first|omega|exact Nat.le_refl _⟩,by repeat (first|exact Drawn0.refl _|apply Drawn0.step)⟩
   ·rw [if_neg c4] at H
    have c4b0 : decide (63 < (a0.size : Int)) = false:=decide_eq_false c4
    have c4b1 : decide (63 < a0.size) = false:=decide_eq_false (by omega)
    clear c4
    by_cases c5 : 0 < (a0.size : Int)
    ·rw [if_pos c5] at H
     have c5b0 : decide (0 < (a0.size : Int)) = true:=decide_eq_true c5
     have c5b1 : decide (0 < a0.size) = true:=decide_eq_true (by omega)
     clear c5
     by_cases c7 : (bt a0 0) = 45
     ·rw [if_pos c7] at H
      have c7b0 : ((bt a0 0) == 45) = true:=beq_iff_eq.mpr c7
      have c7b1 : ((bt a0 0) != 45) = false:=bne_eq_false_iff_eq.mpr c7
      clear c7
      have H':=Aside0.mk H
      clear H
      have p6 : 0 ≤ (0 : Int):=(by omega)
      have q6 : 0 < a0.size:=(by have : (0 : Int) < (a0.size : Int):=of_decide_eq_true (by first|(with_reducible assumption)|assumption);omega)
      have hx6 : ∀ h : 0 < a0.size,((a0[0]'h).toNat : Int) = bt a0 0:=dG a0 0
      clear p6
      have Bt : (0 < (a0.size : Int)) = True:=eq_true (of_decide_eq_true (by first|(with_reducible assumption)|assumption))
      replace q6:=eq_true q6
      go_wp2
      go_meet
      case rel=>exact ⟨_,(true),(by first|rfl|(simp;done)|(simp [*];done)),H',⟨by first|omega|exact Nat.le_refl _⟩,by repeat (first|exact Drawn0.refl _|apply Drawn0.step)⟩
     ·rw [if_neg c7] at H
      have c7b0 : ((bt a0 0) == 45) = false:=beq_eq_false_iff_ne.mpr c7
      have c7b1 : ((bt a0 0) != 45) = true:=bne_iff_ne.mpr c7
      obtain ⟨Aa,Ag⟩ : ∃ j_ : Int,(wrap64 ((a0.size : Int) - 1)) = j_:=⟨_,rfl⟩
      replace H : (if 0 ≤ (Aa) then (if (Aa) < (a0.size : Int) then (bB.j0 k a0 ((bt a0 (Aa)) == 45)) else (none)) else (none)) = some r:=by first|(rw [Ag] at H;exact H)|(simp only [Ag] at H ⊢;exact H)
      have hji8w : (IntKind.i64.wrap ((a0.size : Int) - 1)) = Aa:=(bI _).trans Ag
      by_cases c9 : 0 ≤ (Aa)
      ·rw [if_pos c9] at H
       have c9b0 : decide (0 ≤ (Aa)) = true:=decide_eq_true c9
       clear c9
       by_cases c10 : (Aa) < (a0.size : Int)
       ·rw [if_pos c10] at H
        have c10b0 : decide ((Aa) < (a0.size : Int)) = true:=decide_eq_true c10
        clear c10
        have H':=Aside0.mk H
        clear H
        have p6 : 0 ≤ (0 : Int):=(by omega)
        have q6 : 0 < a0.size:=(by have : (0 : Int) < (a0.size : Int):=of_decide_eq_true (by first|(with_reducible assumption)|assumption);omega)
        have hx6 : ∀ h : 0 < a0.size,((a0[0]'h).toNat : Int) = bt a0 0:=dG a0 0
        clear p6
        have Bt : (0 < (a0.size : Int)) = True:=eq_true (of_decide_eq_true (by first|(with_reducible assumption)|assumption))
        replace q6:=eq_true q6
        have Av : 0 ≤ ((Aa) : Int):=of_decide_eq_true (by first|(with_reducible assumption)|assumption)
        have Aw : (Aa) < (a0.size : Int):=of_decide_eq_true (by first|(with_reducible assumption)|assumption)
        have AV:=dG a0 (Aa)
        replace Av:=eq_true Av
        replace Aw:=eq_true Aw
        go_wp2
        go_meet
        case rel=>exact ⟨_,(((bt a0 (Aa)) == 45)),(by first|rfl|(simp;done)|(simp only [← Ag] <;> (first|rfl|simp))|(simp [*];done)),H',⟨by first|omega|exact Nat.le_refl _⟩,by repeat (first|exact Drawn0.refl _|apply Drawn0.step)⟩
       ·rw [if_neg c10] at H
        exact absurd H (by simp)
      ·rw [if_neg c9] at H
       exact absurd H (by simp)
    ·rw [if_neg c5] at H
     exact absurd H (by simp)
 case rest =>
  clear Br
  try clear c1
  try clear p1
  try clear q1
  try clear hx1
  try clear p2
  try clear c3
  try clear c3b0
  try clear c3b1
  try clear c4
  try clear c4b0
  try clear c4b1
  try clear c5
  try clear c5b0
  try clear c5b1
  try clear p6
  try clear q6
  try clear hx6
  try clear Bt
  try clear c7
  try clear c7b0
  try clear c7b1
  try clear c9
  try clear c9b0
  try clear c10
  try clear c10b0
  try clear Av
  try clear Aw
  try clear AV
  try clear Av
  try clear p6
  try clear Aw
  try clear q6
  obtain ⟨kq,zY,rfl,HA,Ay,⟨BJ,rfl⟩⟩:=hcut
  cases kq with
  | zero=>exact absurd HA.out (by simp [bB.j0])
  | succ Bu =>
   have H:=HA.out
   clear HA
   simp only [bB.j0] at H
   by_cases c12 : zY = true
   ·subst c12
    have H1 : (some false) = some r:=by rw [if_pos rfl] at H;exact H
    clear H
    have H:=H1
    clear H1
    obtain rfl:=Option.some.inj H
    go_wp2
    go_ret
    exact ⟨by first|rfl|(simp;done)|(simp [*];done),by repeat (first|exact Drawn0.refl _|apply Drawn0.step)⟩
   ·replace c12:=Bool.eq_false_iff.mpr c12
    subst c12
    have H1 : (bB.l0 Bu a0 (a0.size : Int) 0) = some r:=by rw [if_neg (show ¬ (false = true) by decide)] at H;exact H
    clear H
    have H:=H1
    clear H1
    have H':=Aside0.mk H
    clear H
    go_wp2
    go_loopg [26] Bu (fun kq v26 w'=>∃ (zL : Int),v26 = .int .i64 zL ∧ Aside0 (bB.l0 kq a0 (a0.size : Int) zL = some r) ∧ Aside0 (kq ≤ Bu) ∧ Drawn0 w w')
    case atStart=>exact ⟨(0),(by first|rfl|(simp;done)|(simp [*];done)),H',⟨Nat.le_refl _⟩,by repeat (first|exact Drawn0.refl _|apply Drawn0.step)⟩
    case round =>
     clear H'
     try clear c1
     try clear p1
     try clear q1
     try clear hx1
     try clear p2
     try clear c3
     try clear c3b0
     try clear c3b1
     try clear c4
     try clear c4b0
     try clear c4b1
     try clear c5
     try clear c5b0
     try clear c5b1
     try clear p6
     try clear q6
     try clear hx6
     try clear Bt
     try clear c7
     try clear c7b0
     try clear c7b1
     try clear c9
     try clear c9b0
     try clear c10
     try clear c10b0
     try clear Av
     try clear Aw
     try clear AV
     try clear c12
     try clear p1
     try clear Av
     try clear p2
     try clear p6
     try clear q1
     try clear Aw
     try clear q6
     obtain ⟨zL,rfl,HA,Az,⟨m2,rfl⟩⟩:=hrel
     cases gk with
     | zero=>exact absurd HA.out (by simp [bB.l0])
     | succ k2 =>
      have H:=HA.out
      clear HA
      simp only [bB.l0] at H
      by_cases c13 : zL < (a0.size : Int)
      ·rw [if_pos c13] at H
       have c13b0 : decide (zL < (a0.size : Int)) = true:=decide_eq_true c13
       clear c13
       by_cases c14 : 0 ≤ zL
       ·rw [if_pos c14] at H
        have c14b0 : decide (0 ≤ zL) = true:=decide_eq_true c14
        clear c14
        by_cases c15 : zL < (a0.size : Int)
        ·rw [if_pos c15] at H
         have c15b0 : decide (zL < (a0.size : Int)) = true:=decide_eq_true c15
         clear c15
         replace H:=Option.bind_eq_some_iff.mp H
         obtain ⟨Af,AX,H⟩:=H
         replace H : (if Af = true then (bB.l0 k2 a0 (a0.size : Int) (wrap64 (zL + 1))) else ((dK.f (bt a0 zL)).bind fun zU=>(if zU = true then (bB.l0 k2 a0 (a0.size : Int) (wrap64 (zL + 1))) else (if (bt a0 zL) = 45 then (bB.l0 k2 a0 (a0.size : Int) (wrap64 (zL + 1))) else (some false))))) = some r:=H
         have Bf:=Aside0.mk AX
         clear AX
         by_cases c18 : Af = true
         ·subst c18
          have H1 : (bB.l0 k2 a0 (a0.size : Int) (wrap64 (zL + 1))) = some r:=by rw [if_pos rfl] at H;exact H
          clear H
          have H:=H1
          clear H1
          have H':=Aside0.mk H
          clear H
          have p16 : 0 ≤ (zL : Int):=of_decide_eq_true (by first|(with_reducible assumption)|assumption)
          have q16 : zL < (a0.size : Int):=of_decide_eq_true (by first|(with_reducible assumption)|assumption)
          have hx16:=dG a0 zL
          replace p16:=eq_true p16
          replace q16:=eq_true q16
          go_wp2_with (first|((with_reducible refine bA (f:=73) rfl ?_);refine cO (some 32) rfl rfl Tryd.func73 (by kernel_rfl) rfl #[.int .u8 (bt a0 zL)] rfl (by (try simp only [List.map_toArray,List.map_cons,List.map_nil]);first|done|rfl|(simp only [List.length_drop,List.length_take];rfl)|(simp (disch:=first|omega|(simp at *;omega)) only [bY,bJ,dF];rfl)) ?_;(with_reducible refine (dY.calls (bt a0 zL) true _ Bf.out).mono ?_);rintro e w' ⟨rfl,⟨nd,rfl⟩⟩;refine ⟨_,rfl,?_⟩))
          go_roundg k2
          case measure=>have:=Ay.out;have:=Az.out;omega
          case rel=>exact ⟨(wrap64 (zL + 1)),(by first|rfl|(simp;done)|(simp [*];done)),H',⟨by have:=Ay.out;have:=Az.out;omega⟩,by repeat (first|exact Drawn0.refl _|apply Drawn0.step)⟩
         ·replace c18:=Bool.eq_false_iff.mpr c18
          subst c18
          have H1 : ((dK.f (bt a0 zL)).bind fun zU=>(if zU = true then (bB.l0 k2 a0 (a0.size : Int) (wrap64 (zL + 1))) else (if (bt a0 zL) = 45 then (bB.l0 k2 a0 (a0.size : Int) (wrap64 (zL + 1))) else (some false)))) = some r:=by rw [if_neg (show ¬ (false = true) by decide)] at H;exact H
          clear H
          have H:=H1
          clear H1
          replace H:=Option.bind_eq_some_iff.mp H
          obtain ⟨zU,AY,H⟩:=H
          replace H : (if zU = true then (bB.l0 k2 a0 (a0.size : Int) (wrap64 (zL + 1))) else (if (bt a0 zL) = 45 then (bB.l0 k2 a0 (a0.size : Int) (wrap64 (zL + 1))) else (some false))) = some r:=H
          have Ar:=Aside0.mk AY
          clear AY
          by_cases c21 : zU = true
          ·subst c21
           have H1 : (bB.l0 k2 a0 (a0.size : Int) (wrap64 (zL + 1))) = some r:=by rw [if_pos rfl] at H;exact H
           clear H
           have H:=H1
           clear H1
           have H':=Aside0.mk H
           clear H
           have p16 : 0 ≤ (zL : Int):=of_decide_eq_true (by first|(with_reducible assumption)|assumption)
           have q16 : zL < (a0.size : Int):=of_decide_eq_true (by first|(with_reducible assumption)|assumption)
           have hx16:=dG a0 zL
           replace p16:=eq_true p16
           replace q16:=eq_true q16
           go_wp2_with (first|((with_reducible refine bA (f:=73) rfl ?_);refine cO (some 32) rfl rfl Tryd.func73 (by kernel_rfl) rfl #[.int .u8 (bt a0 zL)] rfl (by (try simp only [List.map_toArray,List.map_cons,List.map_nil]);first|done|rfl|(simp only [List.length_drop,List.length_take];rfl)|(simp (disch:=first|omega|(simp at *;omega)) only [bY,bJ,dF];rfl)) ?_;(with_reducible refine (dY.calls (bt a0 zL) false _ Bf.out).mono ?_);rintro e w' ⟨rfl,⟨nd,rfl⟩⟩;refine ⟨_,rfl,?_⟩;have Ai : 0 ≤ (zL : Int):=of_decide_eq_true (by first|(with_reducible assumption)|assumption);have Aj : zL < (a0.size : Int):=of_decide_eq_true (by first|(with_reducible assumption)|assumption);have AZ:=dG a0 zL;replace Ai:=eq_true Ai;replace Aj:=eq_true Aj)|(go_at_call 74;(with_reducible refine (dK.calls (bt a0 zL) true _ Ar.out).mono ?_);rintro e w' ⟨rfl,⟨nd,rfl⟩⟩))
           go_roundg k2
           case measure=>have:=Ay.out;have:=Az.out;omega
           case rel=>exact ⟨(wrap64 (zL + 1)),(by first|rfl|(simp;done)|(simp [*];done)),H',⟨by have:=Ay.out;have:=Az.out;omega⟩,by repeat (first|exact Drawn0.refl _|apply Drawn0.step)⟩
          ·replace c21:=Bool.eq_false_iff.mpr c21
           subst c21
           have H1 : (if (bt a0 zL) = 45 then (bB.l0 k2 a0 (a0.size : Int) (wrap64 (zL + 1))) else (some false)) = some r:=by rw [if_neg (show ¬ (false = true) by decide)] at H;exact H
           clear H
           have H:=H1
           clear H1
           by_cases c23 : (bt a0 zL) = 45
           ·rw [if_pos c23] at H
            have c23b0 : ((bt a0 zL) == 45) = true:=beq_iff_eq.mpr c23
            have c23b1 : ((bt a0 zL) != 45) = false:=bne_eq_false_iff_eq.mpr c23
            clear c23
            have H':=Aside0.mk H
            clear H
            have p16 : 0 ≤ (zL : Int):=of_decide_eq_true (by first|(with_reducible assumption)|assumption)
            have q16 : zL < (a0.size : Int):=of_decide_eq_true (by first|(with_reducible assumption)|assumption)
            have hx16:=dG a0 zL
            replace p16:=eq_true p16
            replace q16:=eq_true q16
            go_wp2_with (first|((with_reducible refine bA (f:=73) rfl ?_);refine cO (some 32) rfl rfl Tryd.func73 (by kernel_rfl) rfl #[.int .u8 (bt a0 zL)] rfl (by (try simp only [List.map_toArray,List.map_cons,List.map_nil]);first|done|rfl|(simp only [List.length_drop,List.length_take];rfl)|(simp (disch:=first|omega|(simp at *;omega)) only [bY,bJ,dF];rfl)) ?_;(with_reducible refine (dY.calls (bt a0 zL) false _ Bf.out).mono ?_);rintro e w' ⟨rfl,⟨nd,rfl⟩⟩;refine ⟨_,rfl,?_⟩;have Ai : 0 ≤ (zL : Int):=of_decide_eq_true (by first|(with_reducible assumption)|assumption);have Aj : zL < (a0.size : Int):=of_decide_eq_true (by first|(with_reducible assumption)|assumption);have AZ:=dG a0 zL;replace Ai:=eq_true Ai;replace Aj:=eq_true Aj)|(go_at_call 74;(with_reducible refine (dK.calls (bt a0 zL) false _ Ar.out).mono ?_);rintro e w' ⟨rfl,⟨nd,rfl⟩⟩;have A9 : 0 ≤ (zL : Int):=of_decide_eq_true (by first|(with_reducible assumption)|assumption);have q22 : zL < (a0.size : Int):=of_decide_eq_true (by first|(with_reducible assumption)|assumption);have Bv:=dG a0 zL;replace A9:=eq_true A9;replace q22:=eq_true q22))
            go_roundg k2
            case measure=>have:=Ay.out;have:=Az.out;omega
            case rel=>exact ⟨(wrap64 (zL + 1)),(by first|rfl|(simp;done)|(simp [*];done)),H',⟨by have:=Ay.out;have:=Az.out;omega⟩,by repeat (first|exact Drawn0.refl _|apply Drawn0.step)⟩
           ·rw [if_neg c23] at H
            have c23b0 : ((bt a0 zL) == 45) = false:=beq_eq_false_iff_ne.mpr c23
            have c23b1 : ((bt a0 zL) != 45) = true:=bne_iff_ne.mpr c23
            obtain rfl:=Option.some.inj H
            have p16 : 0 ≤ (zL : Int):=of_decide_eq_true (by first|(with_reducible assumption)|assumption)
            have q16 : zL < (a0.size : Int):=of_decide_eq_true (by first|(with_reducible assumption)|assumption)
            have hx16:=dG a0 zL
            replace p16:=eq_true p16
            replace q16:=eq_true q16
            go_wp2_with (first|((with_reducible refine bA (f:=73) rfl ?_);refine cO (some 32) rfl rfl Tryd.func73 (by kernel_rfl) rfl #[.int .u8 (bt a0 zL)] rfl (by (try simp only [List.map_toArray,List.map_cons,List.map_nil]);first|done|rfl|(simp only [List.length_drop,List.length_take];rfl)|(simp (disch:=first|omega|(simp at *;omega)) only [bY,bJ,dF];rfl)) ?_;(with_reducible refine (dY.calls (bt a0 zL) false _ Bf.out).mono ?_);rintro e w' ⟨rfl,⟨nd,rfl⟩⟩;refine ⟨_,rfl,?_⟩;have Ai : 0 ≤ (zL : Int):=of_decide_eq_true (by first|(with_reducible assumption)|assumption);have Aj : zL < (a0.size : Int):=of_decide_eq_true (by first|(with_reducible assumption)|assumption);have AZ:=dG a0 zL;replace Ai:=eq_true Ai;replace Aj:=eq_true Aj)|(go_at_call 74;(with_reducible refine (dK.calls (bt a0 zL) false _ Ar.out).mono ?_);rintro e w' ⟨rfl,⟨nd,rfl⟩⟩;have A9 : 0 ≤ (zL : Int):=of_decide_eq_true (by first|(with_reducible assumption)|assumption);have q22 : zL < (a0.size : Int):=of_decide_eq_true (by first|(with_reducible assumption)|assumption);have Bv:=dG a0 zL;replace A9:=eq_true A9;replace q22:=eq_true q22))
            go_ret
            exact ⟨by first|rfl|(simp;done)|(simp [*];done),by repeat (first|exact Drawn0.refl _|apply Drawn0.step)⟩
        ·rw [if_neg c15] at H
         exact absurd H (by simp)
       ·rw [if_neg c14] at H
        exact absurd H (by simp)
      ·rw [if_neg c13] at H
       have c13b0 : decide (zL < (a0.size : Int)) = false:=decide_eq_false c13
       clear c13
       obtain rfl:=Option.some.inj H
       go_wp2
       go_ret
       exact ⟨by first|rfl|(simp;done)|(simp [*];done),by repeat (first|exact Drawn0.refl _|apply Drawn0.step)⟩
def eY.f (a0 : Int) : Option (Bool):=if a0 ≥ 65 then (some (decide (a0 ≤ 90))) else (some false)
set_option maxHeartbeats 8000000 in
set_option maxRecDepth 100000 in
theorem eY.calls (a0 : Int) (r : Bool) (w : World) (h : eY.f a0 = some r) :
  Calls Tryd.prog 75 #[.int .u8 a0] w fun e w'=>e = .returned (.bool r) ∧ Drawn0 w w':=by
 have H : (if a0 ≥ 65 then (some (decide (a0 ≤ 90))) else (some false)) = some r:=h
 clear h
 by_cases c2 : a0 ≥ 65
 ·rw [if_pos c2] at H
  have c2b0 : decide (65 ≤ a0) = true:=decide_eq_true c2
  clear c2
  obtain rfl:=Option.some.inj H
  go_enter Tryd.func75,Tryd.ntmps75
  go_wp2
  go_ret
  exact ⟨by first|rfl|(simp;done)|(simp [*];done),by repeat (first|exact Drawn0.refl _|apply Drawn0.step)⟩
 ·rw [if_neg c2] at H
  have c2b0 : decide (65 ≤ a0) = false:=decide_eq_false c2
  clear c2
  obtain rfl:=Option.some.inj H
  go_enter Tryd.func75,Tryd.ntmps75
  go_wp2
  go_ret
  exact ⟨by first|rfl|(simp;done)|(simp [*];done),by repeat (first|exact Drawn0.refl _|apply Drawn0.step)⟩
end Go.Proofs.YtpmbdcljphpcnaaDoor.GC2
