/- Written by this session's own program (wip/gen.py) out of the translation: plain Lean functions of the Go functions, and proofs that the calls come to their answers. No conditions beside those in the statements. -/
import Derived.Test.YtpncpefppifgdaaGreatDoorCp
import Derived.Test.YtpncpefppifgdaaGreatDoorGUtx0
namespace Go.Proofs.YtpncpefppifgdaaGreatDoor.GUt
open Go.RowKit Go.Proofs.YtpncpefppifgdaaGreatDoorW.PrintWords Go.Proofs.YtpncpefppifgdaaGreatDoorW.PrintLast Go.Proofs.YtpncpefppifgdaaGreatDoorW.PrintMore
attribute [local go_sem] fH fI gF gG eZ fq fJ fK
set_option linter.unusedVariables false
set_option linter.unusedSimpArgs false
def jI.f (a0 : Int) : Option (Bool):=if a0 = 1 then (some true) else (if a0 = 2 then (some true) else (if a0 = 4 then (some true) else (if a0 = 8 then (some true) else (some false))))
set_option maxHeartbeats 8000000 in
set_option maxRecDepth 100000 in
theorem jI.calls (a0 : Int) (r : Bool) (w : World) (h : jI.f a0 = some r) :
  Calls Tryz.prog 91 #[.int .i64 a0] w fun e w'=>e = .returned (.bool r) ∧ Drawn0 w w':=by
 have H : (if a0 = 1 then (some true) else (if a0 = 2 then (some true) else (if a0 = 4 then (some true) else (if a0 = 8 then (some true) else (some false))))) = some r:=h
 clear h
 by_cases c2 : a0 = 1
 ·rw [if_pos c2] at H
  have c2b0 : (a0 == 1) = true:=beq_iff_eq.mpr c2
  have c2b1 : (a0 != 1) = false:=bne_eq_false_iff_eq.mpr c2
  clear c2
  obtain rfl:=Option.some.inj H
  go_enter Tryz.func91,Tryz.ntmps91
  go_wp2
  go_ret
  exact ⟨by first|rfl|(simp;done)|(simp [*];done),by repeat (first|exact Drawn0.refl _|apply Drawn0.step)⟩
 ·rw [if_neg c2] at H
  have c2b0 : (a0 == 1) = false:=beq_eq_false_iff_ne.mpr c2
  have c2b1 : (a0 != 1) = true:=bne_iff_ne.mpr c2
  by_cases c3 : a0 = 2
  ·rw [if_pos c3] at H
   have c3b0 : (a0 == 2) = true:=beq_iff_eq.mpr c3
   have c3b1 : (a0 != 2) = false:=bne_eq_false_iff_eq.mpr c3
   clear c3
   obtain rfl:=Option.some.inj H
   go_enter Tryz.func91,Tryz.ntmps91
   go_wp2
   go_ret
   exact ⟨by first|rfl|(simp;done)|(simp [*];done),by repeat (first|exact Drawn0.refl _|apply Drawn0.step)⟩
  ·rw [if_neg c3] at H
   have c3b0 : (a0 == 2) = false:=beq_eq_false_iff_ne.mpr c3
   have c3b1 : (a0 != 2) = true:=bne_iff_ne.mpr c3
   by_cases c4 : a0 = 4
   ·rw [if_pos c4] at H
    have c4b0 : (a0 == 4) = true:=beq_iff_eq.mpr c4
    have c4b1 : (a0 != 4) = false:=bne_eq_false_iff_eq.mpr c4
    clear c4
    obtain rfl:=Option.some.inj H
    go_enter Tryz.func91,Tryz.ntmps91
    go_wp2
    go_ret
    exact ⟨by first|rfl|(simp;done)|(simp [*];done),by repeat (first|exact Drawn0.refl _|apply Drawn0.step)⟩
   ·rw [if_neg c4] at H
    have c4b0 : (a0 == 4) = false:=beq_eq_false_iff_ne.mpr c4
    have c4b1 : (a0 != 4) = true:=bne_iff_ne.mpr c4
    by_cases c5 : a0 = 8
    ·rw [if_pos c5] at H
     have c5b0 : (a0 == 8) = true:=beq_iff_eq.mpr c5
     have c5b1 : (a0 != 8) = false:=bne_eq_false_iff_eq.mpr c5
     clear c5
     obtain rfl:=Option.some.inj H
     go_enter Tryz.func91,Tryz.ntmps91
     go_wp2
     go_ret
     exact ⟨by first|rfl|(simp;done)|(simp [*];done),by repeat (first|exact Drawn0.refl _|apply Drawn0.step)⟩
    ·rw [if_neg c5] at H
     have c5b0 : (a0 == 8) = false:=beq_eq_false_iff_ne.mpr c5
     have c5b1 : (a0 != 8) = true:=bne_iff_ne.mpr c5
     obtain rfl:=Option.some.inj H
     go_enter Tryz.func91,Tryz.ntmps91
     go_wp2
     go_ret
     exact ⟨by first|rfl|(simp;done)|(simp [*];done),by repeat (first|exact Drawn0.refl _|apply Drawn0.step)⟩
def bS.l0 : Nat → Int → Int → List Int → Int → Int → Option (ByteArray)
 | 0,_,_,_,_,_=>none
 | k + 1,x0,x1,x5,Dj,Ck=>if Ck < Dj then (if 0 ≤ (wrap64 (8 * Ck)) then (if 0 ≤ (wrap64 ((wrap64 (x0 - 1)) - Ck)) then (if (wrap64 ((wrap64 (x0 - 1)) - Ck)) < (x5.length : Int) then (bS.l0 k x0 x1 (x5.set ((wrap64 ((wrap64 (x0 - 1)) - Ck)) : Int).toNat ((shr .u64 x1 (wrap64 (8 * Ck))) % 256)) Dj (wrap64 (Ck + 1))) else (none)) else (none)) else (none)) else (some (strOfNums x5))
def bS.f (k : Nat) (a0 : Int) (a1 : Int) : Option (ByteArray):=(jI.f a0).bind fun BR=>(if BR = true then (if 0 ≤ a0 then (if (a0 : Int).toNat ≤ 281474976710656 then (bS.l0 k a0 a1 (List.replicate (a0 : Int).toNat 0) a0 0) else (none)) else (none)) else (some (⟨#[]⟩ : ByteArray)))
theorem bS.eB : ∀ k,(∀ y0 y1 y2 y3 y4,LeO (bS.l0 k y0 y1 y2 y3 y4) (bS.l0 (k + 1) y0 y1 y2 y3 y4))
 | 0=>fun _ _ _ _ _ r h=>by simp [bS.l0] at h
 | k + 1=>by
  have BS:=bS.eB k
  ·intro y0 y1 y2 y3 y4
   unfold bS.l0
   repeat' first
   | (with_reducible exact BS _ _ _ _ _)
   | (with_reducible exact LeO.refl _)
   | (with_reducible exact LeO.none _)
   | (with_reducible refine LeO.ite ?_ ?_)
   | (with_reducible refine LeO.bind ?_ (fun _=>?_))
   | exact BS _ _ _ _ _
   | exact LeO.none _
   | refine LeO.ite ?_ ?_
   | refine LeO.bind ?_ (fun _=>?_)
theorem bS.mono : ∀ a0 a1 k,LeO (bS.f k a0 a1) (bS.f (k + 1) a0 a1):=by
 intro a0 a1 k
 have BS:=bS.eB k
 unfold bS.f
 repeat' first
   | (with_reducible exact BS _ _ _ _ _)
   | (with_reducible exact LeO.refl _)
   | (with_reducible exact LeO.none _)
   | (with_reducible refine LeO.ite ?_ ?_)
   | (with_reducible refine LeO.bind ?_ (fun _=>?_))
   | exact BS _ _ _ _ _
   | exact LeO.none _
   | refine LeO.ite ?_ ?_
   | refine LeO.bind ?_ (fun _=>?_)
set_option maxHeartbeats 8000000 in
set_option maxRecDepth 100000 in
theorem bS.calls (k : Nat) (a0 : Int) (a1 : Int) (r : ByteArray) (w : World) (h : bS.f k a0 a1 = some r) :
  Calls Tryz.prog 67 #[.int .i64 a0,.int .u64 a1] w fun e w'=>e = .returned (.string r) ∧ Below w.heap.size w w':=by
 have HB:=Aside0.mk (Below.refl w.heap.size w)
 have H : ((jI.f a0).bind fun BR=>(if BR = true then (if 0 ≤ a0 then (if (a0 : Int).toNat ≤ 281474976710656 then (bS.l0 k a0 a1 (List.replicate (a0 : Int).toNat 0) a0 0) else (none)) else (none)) else (some (⟨#[]⟩ : ByteArray)))) = some r:=h
 clear h
 replace H:=Option.bind_eq_some_iff.mp H
 obtain ⟨BR,Cx,H⟩:=H
 replace H : (if BR = true then (if 0 ≤ a0 then (if (a0 : Int).toNat ≤ 281474976710656 then (bS.l0 k a0 a1 (List.replicate (a0 : Int).toNat 0) a0 0) else (none)) else (none)) else (some (⟨#[]⟩ : ByteArray))) = some r:=H
 have A3:=Aside0.mk Cx
 clear Cx
 by_cases c4 : BR = true
 ·subst c4
  have H1 : (if 0 ≤ a0 then (if (a0 : Int).toNat ≤ 281474976710656 then (bS.l0 k a0 a1 (List.replicate (a0 : Int).toNat 0) a0 0) else (none)) else (none)) = some r:=by rw [if_pos rfl] at H;exact H
  clear H
  have H:=H1
  clear H1
  by_cases c5 : 0 ≤ a0
  ·rw [if_pos c5] at H
   have c5b0:=eq_true c5
   have c5b1 : decide (0 ≤ a0) = true:=decide_eq_true c5
   clear c5
   by_cases c6 : (a0 : Int).toNat ≤ 281474976710656
   ·rw [if_pos c6] at H
    have c6b0:=eq_true c6
    have c6b1 : decide ((a0 : Int).toNat ≤ 281474976710656) = true:=decide_eq_true c6
    clear c6
    obtain ⟨y102,hy102⟩ : ∃ y_ : List Int,y_ = (List.replicate (a0 : Int).toNat 0):=⟨_,rfl⟩
    replace H : (bS.l0 k a0 a1 y102 a0 0) = some r:=by first|(rw [hy102];with_reducible exact H)|(have Cm:=(Option.bind_some _ _).symm.trans H;rw [hy102];with_reducible exact Cm)|(have Cm:=(Option.bind_some _ _).symm.trans H;with_reducible exact Cm)|with_reducible exact H|(rw [hy102];exact H)|exact H
    have Ch:=Aside0.mk hy102
    clear hy102
    have H':=Aside0.mk H
    clear H
    go_enter Tryz.func67,Tryz.ntmps67
    go_wp2_with (first|((with_reducible refine bG (f:=91) rfl ?_);refine dJ (some 8) rfl rfl Tryz.func91 (by kernel_rfl) rfl #[.int .i64 a0] rfl (by (try simp only [List.map_toArray,List.map_cons,List.map_nil]);first|done|rfl|(simp only [List.length_drop,List.length_take];rfl)|(simp (disch:=first|omega|(simp at *;omega)) only [dK,bW,eG];rfl)) ?_;(with_reducible refine (jI.calls a0 true _ A3.out).mono ?_);rintro e w' ⟨rfl,⟨nd,rfl⟩⟩;refine ⟨_,rfl,?_⟩)|((with_reducible refine bN (N:=11) rfl ?_);refine Kd.yP (Kd.int .u8) _ 5 rfl (N:=11) rfl 138 _ _ rfl a0 rfl rfl Tryz.underlying138 (.int .u8 0) 1 info5 rfl (by decide) (by omega) 0 (ok:=fun _=>True) (okp:=fun _=>True) rfl (fun _ hk=>hk) trivial (of_decide_eq_true (by first|(with_reducible assumption)|assumption)) (Nat.le_trans (Nat.mul_le_mul_right _ (of_decide_eq_true (by first|(with_reducible assumption)|assumption) : a0.toNat ≤ 281474976710656)) (by omega)) (Below.refl _ _) (Nat.le_refl _) ?_;intro CW w7 Cy hb hg_ hnew_;clear hg_ hnew_;(first|rw [← Ch.out] at Cy|(simp only [Int.reduceToNat] at Cy;rw [← Ch.out] at Cy));have BG:=Aside0.mk (Kd.lC Cy (aR hb_));have Cz:=Aside0.mk (aN hb_ hb);clear HB;have CB:=BG;have HB:=Cz;clear BG Cz;clear hb Cy))
    go_loopg [13] k (fun kq v13 w'=>∃ (BD : List Int) (Bz : Int),v13 = .int .i64 Bz ∧ Aside0 (bS.l0 kq a0 a1 BD a0 Bz = some r) ∧ Aside0 (kq ≤ k) ∧ Aside0 (Kd.R (Kd.int .u8) 5 w' w.heap.size (fun _=>True) CW BD) ∧ Aside0 (Below w.heap.size w w'))
    case atStart=>exact ⟨(y102),(0),(by first|rfl|(simp;done)|(simp [*];done)|exact congrArg Value.bool (cZ _)|exact congrArg Value.bool (cZ _).symm),H',⟨Nat.le_refl _⟩,⟨by (with_reducible repeat (first|apply Kd.kC|apply Kd.kD|apply Kd.l7));exact CB.out⟩,⟨hb_⟩⟩
    case round =>
     clear H'
     try clear p2
     try clear c4
     try clear c5
     try clear c5b0
     try clear c5b1
     try clear c6
     try clear c6b0
     try clear c6b1
     obtain ⟨BD,Bz,rfl,HA,Dk,BN,HB⟩:=hrel
     cases gk with
     | zero=>exact absurd HA.out (by simp [bS.l0])
     | succ k1 =>
      have H:=HA.out
      clear HA
      simp only [bS.l0] at H
      by_cases c9 : Bz < a0
      ·rw [if_pos c9] at H
       have c9b0 : decide (Bz < a0) = true:=decide_eq_true c9
       clear c9
       obtain ⟨BI,BZ⟩ : ∃ j_ : Int,(wrap64 (8 * Bz)) = j_:=⟨_,rfl⟩
       replace H : (if 0 ≤ (BI) then (if 0 ≤ (wrap64 ((wrap64 (a0 - 1)) - Bz)) then (if (wrap64 ((wrap64 (a0 - 1)) - Bz)) < (BD.length : Int) then (bS.l0 k1 a0 a1 (BD.set ((wrap64 ((wrap64 (a0 - 1)) - Bz)) : Int).toNat ((shr .u64 a1 (BI)) % 256)) a0 (wrap64 (Bz + 1))) else (none)) else (none)) else (none)) = some r:=by first|(rw [BZ] at H;exact H)|(simp only [BZ] at H ⊢;exact H)
       have hji10w : (IntKind.i64.wrap (8 * Bz)) = BI:=(bO _).trans BZ
       by_cases c11 : 0 ≤ (BI)
       ·rw [if_pos c11] at H
        have c11b0:=eq_true c11
        have c11b1 : decide (0 ≤ (BI)) = true:=decide_eq_true c11
        clear c11
        obtain ⟨BO,BP⟩ : ∃ j_ : Int,(shr .u64 a1 (BI)) = j_:=⟨_,rfl⟩
        replace H : (if 0 ≤ (wrap64 ((wrap64 (a0 - 1)) - Bz)) then (if (wrap64 ((wrap64 (a0 - 1)) - Bz)) < (BD.length : Int) then (bS.l0 k1 a0 a1 (BD.set ((wrap64 ((wrap64 (a0 - 1)) - Bz)) : Int).toNat ((BO) % 256)) a0 (wrap64 (Bz + 1))) else (none)) else (none)) = some r:=by first|(rw [BP] at H;exact H)|(simp only [BP] at H ⊢;exact H)
        have CX : (a1 / 2 ^ min (BI).toNat 64) = BO:=BP
        have hji12z : (BI) ≤ 64 → (a1 / 2 ^ (BI).toNat) = BO:=uw BP
        obtain ⟨BF,Ca⟩ : ∃ j_ : Int,(wrap64 ((wrap64 (a0 - 1)) - Bz)) = j_:=⟨_,rfl⟩
        replace H : (if 0 ≤ (BF) then (if (BF) < (BD.length : Int) then (bS.l0 k1 a0 a1 (BD.set ((BF) : Int).toNat ((BO) % 256)) a0 (wrap64 (Bz + 1))) else (none)) else (none)) = some r:=by first|(rw [Ca] at H;exact H)|(simp only [Ca] at H ⊢;exact H)
        have hji13w : (IntKind.i64.wrap ((wrap64 (a0 - 1)) - Bz)) = BF:=(bO _).trans Ca
        by_cases c14 : 0 ≤ (BF)
        ·rw [if_pos c14] at H
         have c14b0 : decide (0 ≤ (BF)) = true:=decide_eq_true c14
         clear c14
         by_cases c15 : (BF) < (BD.length : Int)
         ·rw [if_pos c15] at H
          have c15b0 : decide ((BF) < (BD.length : Int)) = true:=decide_eq_true c15
          clear c15
          obtain ⟨Cn,BJ⟩ : ∃ y_ : List Int,y_ = (BD.set ((BF) : Int).toNat ((BO) % 256)):=⟨_,rfl⟩
          replace H : (bS.l0 k1 a0 a1 Cn a0 (wrap64 (Bz + 1))) = some r:=by first|(rw [BJ];with_reducible exact H)|(have Cm:=(Option.bind_some _ _).symm.trans H;rw [BJ];with_reducible exact Cm)|(have Cm:=(Option.bind_some _ _).symm.trans H;with_reducible exact Cm)|with_reducible exact H|(rw [BJ];exact H)|exact H
          have CF:=Aside0.mk BJ
          clear BJ
          have H':=Aside0.mk H
          clear H
          have p16 : 0 ≤ ((BF) : Int):=of_decide_eq_true (by first|(with_reducible assumption)|assumption)
          have q16 : ((BF) : Int) < ((BD.length : Int) : Int):=of_decide_eq_true (by first|(with_reducible assumption)|assumption)
          obtain ⟨Co,CY,CG,CJ,CZ,Dn,CK⟩:=Kd.yN BN.out (by omega)
          (first|cases CG|(injection CG with ea_ en_ ec_;(first|subst ea_|(injection ea_ with ea_;subst ea_));subst ec_;clear en_))
          have C8:=Aside0.mk CJ
          have Dp:=Aside0.mk CK
          clear CJ CZ CK
          obtain ⟨C9,Da⟩:=Kd.wX 0 BN.out ((BF) : Int) p16 q16
          replace p16:=eq_true p16
          replace q16:=eq_true q16
          have Cq:=Kd.yS BN.out ((BF) : Int) ((BO) % 256)
          go_wp2_with (first|((with_reducible refine l8 (t:=5) (p:=26) rfl ?_);refine kP (t:=5) (p:=26) (v:=?vo_w18) (w1:=(wr.setCell ⟨Co,((BF) : Int).toNat,none⟩ (.int .u8 ((BO) % 256)))) ?hg ?ho ?hn ?hr ?_;(case ho=>rfl);(case hg=>rfl);(case hn=>rfl);(case hr=>first|(go_simp;done)|(go_simp;rfl));intro Db hw;have hg : wr.grownBy Db (some Co):=(by rw [hw];exact Cq.2);have hp_ : Kd.R (Kd.int .u8) 5 Db w.heap.size (fun _=>True) (.slice (some ⟨Co,0,none⟩) BD.length CY) Cn:=(by rw [hw,CF.out];exact Cq.1);clear Cq;have BG:=Aside0.mk (hp_);have Cz:=Aside0.mk ((by rw [hw];exact eu (HB.out) C8.out : Below w.heap.size w Db));clear BN;clear HB;have BN:=BG;have HB:=Cz;clear BG Cz;clear hg hw hp_))
          go_roundg k1
          case measure=>have:=Dk.out;omega
          case rel=>exact ⟨(Cn),(wrap64 (Bz + 1)),(by first|rfl|(simp;done)|(simp [*];done)|exact congrArg Value.bool (cZ _)|exact congrArg Value.bool (cZ _).symm),H',⟨by have:=Dk.out;omega⟩,⟨by (with_reducible repeat (first|apply Kd.kC|apply Kd.kD|apply Kd.l7));exact BN.out⟩,⟨hb_⟩⟩
         ·rw [if_neg c15] at H
          exact absurd H (by simp)
        ·rw [if_neg c14] at H
         exact absurd H (by simp)
       ·rw [if_neg c11] at H
        exact absurd H (by simp)
      ·rw [if_neg c9] at H
       have c9b0 : decide (Bz < a0) = false:=decide_eq_false c9
       clear c9
       obtain rfl:=Option.some.inj H
       have Dl:=rG (P:=Tryz.prog) Tryz.underlying138 Tryz.underlying5 Tryz.underlying9 (Kd.nV BN.out)
       go_wp2
       go_ret
       exact ⟨by first|rfl|(simp [bg,bA] <;> rfl)|(simp [*,bg,bA] <;> rfl),hb_⟩
   ·rw [if_neg c6] at H
    exact absurd H (by simp)
  ·rw [if_neg c5] at H
   exact absurd H (by simp)
 ·replace c4:=Bool.eq_false_iff.mpr c4
  subst c4
  have H1 : (some (⟨#[]⟩ : ByteArray)) = some r:=by rw [if_neg (show ¬ (false = true) by decide)] at H;exact H
  clear H
  have H:=H1
  clear H1
  obtain rfl:=Option.some.inj H
  go_enter Tryz.func67,Tryz.ntmps67
  go_wp2_with (first|((with_reducible refine bG (f:=91) rfl ?_);refine dJ (some 8) rfl rfl Tryz.func91 (by kernel_rfl) rfl #[.int .i64 a0] rfl (by (try simp only [List.map_toArray,List.map_cons,List.map_nil]);first|done|rfl|(simp only [List.length_drop,List.length_take];rfl)|(simp (disch:=first|omega|(simp at *;omega)) only [dK,bW,eG];rfl)) ?_;(with_reducible refine (jI.calls a0 false _ A3.out).mono ?_);rintro e w' ⟨rfl,⟨nd,rfl⟩⟩;refine ⟨_,rfl,?_⟩))
  go_ret
  exact ⟨by first|rfl|(simp [bg,bA] <;> rfl)|(simp [*,bg,bA] <;> rfl),hb_⟩
def gL.f (k : Nat) (a0 : ByteArray) : Option (ByteArray × Int):=if (a0.size : Int) > 4096 then (some ((⟨#[]⟩ : ByteArray),2)) else ((bS.f k 2 (IntKind.u64.wrap ((a0.size : Int)))).bind fun BH=>(if BH.size + a0.size ≤ 9223372036854775807 then (some (BH ++ a0,0)) else (none)))
theorem gL.mono : ∀ a0 k,LeO (gL.f k a0) (gL.f (k + 1) a0):=by
 intro a0 k
 unfold gL.f
 repeat' first
   | (with_reducible exact bS.mono _ _ _)
   | (with_reducible exact LeO.refl _)
   | (with_reducible exact LeO.none _)
   | (with_reducible refine LeO.ite ?_ ?_)
   | (with_reducible refine LeO.bind ?_ (fun _=>?_))
   | exact bS.mono _ _ _
   | exact LeO.none _
   | refine LeO.ite ?_ ?_
   | refine LeO.bind ?_ (fun _=>?_)
set_option maxHeartbeats 8000000 in
set_option maxRecDepth 100000 in
theorem gL.calls (k : Nat) (a0 : ByteArray) (r1 : ByteArray) (r2 : Int) (w : World) (h : gL.f k a0 = some (r1,r2)) :
  Calls Tryz.prog 68 #[.string a0] w fun e w'=>e = .returned (.tuple #[.string r1,.int .i64 r2]) ∧ Below w.heap.size w w':=by
 have HB:=Aside0.mk (Below.refl w.heap.size w)
 have H : (if (a0.size : Int) > 4096 then (some ((⟨#[]⟩ : ByteArray),2)) else ((bS.f k 2 (IntKind.u64.wrap ((a0.size : Int)))).bind fun BH=>(if BH.size + a0.size ≤ 9223372036854775807 then (some (BH ++ a0,0)) else (none)))) = some (r1,r2):=h
 clear h
 by_cases c2 : (a0.size : Int) > 4096
 ·rw [if_pos c2] at H
  have c2b0 : decide (4096 < (a0.size : Int)) = true:=decide_eq_true c2
  have c2b1 : decide (4096 < a0.size) = true:=decide_eq_true (by omega)
  clear c2
  simp only [Option.some.injEq,Prod.mk.injEq] at H
  obtain ⟨rfl,rfl⟩:=H
  go_enter Tryz.func68,Tryz.ntmps68
  go_wp2
  go_ret2
  exact ⟨by first|rfl|(simp [bg,bA] <;> rfl)|(simp [*,bg,bA] <;> rfl),hb_⟩
 ·rw [if_neg c2] at H
  have c2b0 : decide (4096 < (a0.size : Int)) = false:=decide_eq_false c2
  have c2b1 : decide (4096 < a0.size) = false:=decide_eq_false (by omega)
  clear c2
  replace H:=Option.bind_eq_some_iff.mp H
  obtain ⟨BH,Cx,H⟩:=H
  replace H : (if BH.size + a0.size ≤ 9223372036854775807 then (some (BH ++ a0,0)) else (none)) = some (r1,r2):=H
  have A3:=Aside0.mk Cx
  clear Cx
  by_cases c4 : BH.size + a0.size ≤ 9223372036854775807
  ·rw [if_pos c4] at H
   have c4b0:=eq_true c4
   have c4b1 : decide (BH.size + a0.size ≤ 9223372036854775807) = true:=decide_eq_true c4
   try have c4b2 : (9223372036854775807 < BH.size + a0.size) = False:=eq_false (Nat.not_lt.2 c4)
   simp only [Option.some.injEq,Prod.mk.injEq] at H
   obtain ⟨rfl,rfl⟩:=H
   go_enter Tryz.func68,Tryz.ntmps68
   go_wp2_with (first|((with_reducible refine bG (f:=67) rfl ?_);refine dJ (some 10) rfl rfl Tryz.func67 (by kernel_rfl) rfl #[.int .i64 2,.int .u64 (IntKind.u64.wrap ((a0.size : Int)))] rfl (by (try simp only [List.map_toArray,List.map_cons,List.map_nil]);first|done|rfl|(simp only [List.length_drop,List.length_take];rfl)|(simp (disch:=first|omega|(simp at *;omega)) only [dK,bW,eG];rfl)) ?_;(with_reducible refine (bS.calls k 2 (IntKind.u64.wrap ((a0.size : Int))) BH _ A3.out).mono ?_);rintro e w5 ⟨rfl,hb⟩;refine ⟨_,rfl,?_⟩;have BG:=Aside0.mk (aN hb_ hb);clear HB;have HB:=BG;clear BG;(try clear hb);(try clear hb2);(try clear hk);(try clear hi)))
   go_ret2
   exact ⟨by first|rfl|(simp [bg,bA] <;> rfl)|(simp [*,bg,bA] <;> rfl),hb_⟩
  ·rw [if_neg c4] at H
   exact absurd H (by simp)
def dZ.f (k : Nat)  : Option (Bool):=(gL.f k (⟨#[97]⟩ : ByteArray)).bind fun BK=>((bS.f k 2 258).bind fun t109=>(if t109.toList = ([1,2] : List UInt8) then (if BK.1.toList = ([0,1,97] : List UInt8) then (some (BK.2 == 0)) else (some false)) else (some false)))
theorem dZ.mono : ∀ k,LeO (dZ.f k ) (dZ.f (k + 1) ):=by
 intro  k
 unfold dZ.f
 repeat' first
   | (with_reducible exact bS.mono _ _ _)
   | (with_reducible exact gL.mono _ _)
   | (with_reducible exact LeO.refl _)
   | (with_reducible exact LeO.none _)
   | (with_reducible refine LeO.ite ?_ ?_)
   | (with_reducible refine LeO.bind ?_ (fun _=>?_))
   | exact bS.mono _ _ _
   | exact gL.mono _ _
   | exact LeO.none _
   | refine LeO.ite ?_ ?_
   | refine LeO.bind ?_ (fun _=>?_)
set_option maxHeartbeats 8000000 in
set_option maxRecDepth 100000 in
theorem dZ.calls (k : Nat)  (r : Bool) (w : World) (h : dZ.f k  = some r) :
  Calls Tryz.prog 49 #[] w fun e w'=>e = .returned (.bool r) ∧ Below w.heap.size w w':=by
 have HB:=Aside0.mk (Below.refl w.heap.size w)
 have H : ((gL.f k (⟨#[97]⟩ : ByteArray)).bind fun BK=>((bS.f k 2 258).bind fun t109=>(if t109.toList = ([1,2] : List UInt8) then (if BK.1.toList = ([0,1,97] : List UInt8) then (some (BK.2 == 0)) else (some false)) else (some false)))) = some r:=h
 clear h
 replace H:=Option.bind_eq_some_iff.mp H
 obtain ⟨⟨t107,Cb⟩,Dm,H⟩:=H
 replace H : ((bS.f k 2 258).bind fun t109=>(if t109.toList = ([1,2] : List UInt8) then (if t107.toList = ([0,1,97] : List UInt8) then (some (Cb == 0)) else (some false)) else (some false))) = some r:=H
 have A1:=Aside0.mk Dm
 clear Dm
 replace H:=Option.bind_eq_some_iff.mp H
 obtain ⟨t109,Cr,H⟩:=H
 replace H : (if t109.toList = ([1,2] : List UInt8) then (if t107.toList = ([0,1,97] : List UInt8) then (some (Cb == 0)) else (some false)) else (some false)) = some r:=H
 have A2:=Aside0.mk Cr
 clear Cr
 by_cases c3 : t109.toList = ([1,2] : List UInt8)
 ·rw [if_pos c3] at H
  have c3b0 : (t109.toList == ([1,2] : List UInt8)) = true:=beq_iff_eq.mpr c3
  have c3b1 : (t109.toList != ([1,2] : List UInt8)) = false:=bne_eq_false_iff_eq.mpr c3
  clear c3
  by_cases c4 : t107.toList = ([0,1,97] : List UInt8)
  ·rw [if_pos c4] at H
   have c4b0 : (t107.toList == ([0,1,97] : List UInt8)) = true:=beq_iff_eq.mpr c4
   have c4b1 : (t107.toList != ([0,1,97] : List UInt8)) = false:=bne_eq_false_iff_eq.mpr c4
   clear c4
   obtain rfl:=Option.some.inj H
   go_enter Tryz.func49,Tryz.ntmps49
   go_wp2_with (first|((with_reducible refine bG (f:=68) rfl ?_);refine dJ (some 4) rfl rfl Tryz.func68 (by kernel_rfl) rfl #[.string (⟨#[97]⟩ : ByteArray)] rfl (by (try simp only [List.map_toArray,List.map_cons,List.map_nil]);first|done|rfl|(simp only [List.length_drop,List.length_take];rfl)|(simp (disch:=first|omega|(simp at *;omega)) only [dK,bW,eG];rfl)) ?_;(with_reducible refine (gL.calls k (⟨#[97]⟩ : ByteArray) t107 Cb _ A1.out).mono ?_);rintro e w5 ⟨rfl,hb⟩;refine ⟨_,rfl,?_⟩;have BG:=Aside0.mk (aN hb_ hb);clear HB;have HB:=BG;clear BG;(try clear hb);(try clear hb2);(try clear hk);(try clear hi))|((with_reducible refine bG (f:=67) rfl ?_);refine dJ (some 7) rfl rfl Tryz.func67 (by kernel_rfl) rfl #[.int .i64 2,.int .u64 258] rfl (by (try simp only [List.map_toArray,List.map_cons,List.map_nil]);first|done|rfl|(simp only [List.length_drop,List.length_take];rfl)|(simp (disch:=first|omega|(simp at *;omega)) only [dK,bW,eG];rfl)) ?_;(with_reducible refine (bS.calls k 2 258 t109 _ A2.out).mono ?_);rintro e w6 ⟨rfl,hb⟩;refine ⟨_,rfl,?_⟩;have BG:=Aside0.mk (aN hb_ hb);clear HB;have HB:=BG;clear BG;(try clear hb);(try clear hb2);(try clear hk);(try clear hi)))
   go_ret
   exact ⟨by first|rfl|(simp [bg,bA] <;> rfl)|(simp [*,bg,bA] <;> rfl),hb_⟩
  ·rw [if_neg c4] at H
   have c4b0 : (t107.toList == ([0,1,97] : List UInt8)) = false:=beq_eq_false_iff_ne.mpr c4
   have c4b1 : (t107.toList != ([0,1,97] : List UInt8)) = true:=bne_iff_ne.mpr c4
   obtain rfl:=Option.some.inj H
   go_enter Tryz.func49,Tryz.ntmps49
   go_wp2_with (first|((with_reducible refine bG (f:=68) rfl ?_);refine dJ (some 4) rfl rfl Tryz.func68 (by kernel_rfl) rfl #[.string (⟨#[97]⟩ : ByteArray)] rfl (by (try simp only [List.map_toArray,List.map_cons,List.map_nil]);first|done|rfl|(simp only [List.length_drop,List.length_take];rfl)|(simp (disch:=first|omega|(simp at *;omega)) only [dK,bW,eG];rfl)) ?_;(with_reducible refine (gL.calls k (⟨#[97]⟩ : ByteArray) t107 Cb _ A1.out).mono ?_);rintro e w7 ⟨rfl,hb⟩;refine ⟨_,rfl,?_⟩;have BG:=Aside0.mk (aN hb_ hb);clear HB;have HB:=BG;clear BG;(try clear hb);(try clear hb2);(try clear hk);(try clear hi))|((with_reducible refine bG (f:=67) rfl ?_);refine dJ (some 7) rfl rfl Tryz.func67 (by kernel_rfl) rfl #[.int .i64 2,.int .u64 258] rfl (by (try simp only [List.map_toArray,List.map_cons,List.map_nil]);first|done|rfl|(simp only [List.length_drop,List.length_take];rfl)|(simp (disch:=first|omega|(simp at *;omega)) only [dK,bW,eG];rfl)) ?_;(with_reducible refine (bS.calls k 2 258 t109 _ A2.out).mono ?_);rintro e w8 ⟨rfl,hb⟩;refine ⟨_,rfl,?_⟩;have BG:=Aside0.mk (aN hb_ hb);clear HB;have HB:=BG;clear BG;(try clear hb);(try clear hb2);(try clear hk);(try clear hi)))
   go_ret
   exact ⟨by first|rfl|(simp [bg,bA] <;> rfl)|(simp [*,bg,bA] <;> rfl),hb_⟩
 ·rw [if_neg c3] at H
  have c3b0 : (t109.toList == ([1,2] : List UInt8)) = false:=beq_eq_false_iff_ne.mpr c3
  have c3b1 : (t109.toList != ([1,2] : List UInt8)) = true:=bne_iff_ne.mpr c3
  obtain rfl:=Option.some.inj H
  go_enter Tryz.func49,Tryz.ntmps49
  go_wp2_with (first|((with_reducible refine bG (f:=68) rfl ?_);refine dJ (some 4) rfl rfl Tryz.func68 (by kernel_rfl) rfl #[.string (⟨#[97]⟩ : ByteArray)] rfl (by (try simp only [List.map_toArray,List.map_cons,List.map_nil]);first|done|rfl|(simp only [List.length_drop,List.length_take];rfl)|(simp (disch:=first|omega|(simp at *;omega)) only [dK,bW,eG];rfl)) ?_;(with_reducible refine (gL.calls k (⟨#[97]⟩ : ByteArray) t107 Cb _ A1.out).mono ?_);rintro e w9 ⟨rfl,hb⟩;refine ⟨_,rfl,?_⟩;have BG:=Aside0.mk (aN hb_ hb);clear HB;have HB:=BG;clear BG;(try clear hb);(try clear hb2);(try clear hk);(try clear hi))|((with_reducible refine bG (f:=67) rfl ?_);refine dJ (some 7) rfl rfl Tryz.func67 (by kernel_rfl) rfl #[.int .i64 2,.int .u64 258] rfl (by (try simp only [List.map_toArray,List.map_cons,List.map_nil]);first|done|rfl|(simp only [List.length_drop,List.length_take];rfl)|(simp (disch:=first|omega|(simp at *;omega)) only [dK,bW,eG];rfl)) ?_;(with_reducible refine (bS.calls k 2 258 t109 _ A2.out).mono ?_);rintro e Dq ⟨rfl,hb⟩;refine ⟨_,rfl,?_⟩;have BG:=Aside0.mk (aN hb_ hb);clear HB;have HB:=BG;clear BG;(try clear hb);(try clear hb2);(try clear hk);(try clear hi)))
  go_ret
  exact ⟨by first|rfl|(simp [bg,bA] <;> rfl)|(simp [*,bg,bA] <;> rfl),hb_⟩
def eD.f (a0 : Int) : Option (Bool):=if a0 ≥ 97 then (some (decide (a0 ≤ 122))) else (some false)
set_option maxHeartbeats 8000000 in
set_option maxRecDepth 100000 in
theorem eD.calls (a0 : Int) (r : Bool) (w : World) (h : eD.f a0 = some r) :
  Calls Tryz.prog 92 #[.int .u8 a0] w fun e w'=>e = .returned (.bool r) ∧ Drawn0 w w':=by
 have H : (if a0 ≥ 97 then (some (decide (a0 ≤ 122))) else (some false)) = some r:=h
 clear h
 by_cases c2 : a0 ≥ 97
 ·rw [if_pos c2] at H
  have c2b0 : decide (97 ≤ a0) = true:=decide_eq_true c2
  clear c2
  obtain rfl:=Option.some.inj H
  go_enter Tryz.func92,Tryz.ntmps92
  go_wp2
  go_ret
  exact ⟨by first|rfl|(simp;done)|(simp [*];done),by repeat (first|exact Drawn0.refl _|apply Drawn0.step)⟩
 ·rw [if_neg c2] at H
  have c2b0 : decide (97 ≤ a0) = false:=decide_eq_false c2
  clear c2
  obtain rfl:=Option.some.inj H
  go_enter Tryz.func92,Tryz.ntmps92
  go_wp2
  go_ret
  exact ⟨by first|rfl|(simp;done)|(simp [*];done),by repeat (first|exact Drawn0.refl _|apply Drawn0.step)⟩
def dH.f (a0 : Int) : Option (Bool):=if a0 ≥ 48 then (some (decide (a0 ≤ 57))) else (some false)
set_option maxHeartbeats 8000000 in
set_option maxRecDepth 100000 in
theorem dH.calls (a0 : Int) (r : Bool) (w : World) (h : dH.f a0 = some r) :
  Calls Tryz.prog 93 #[.int .u8 a0] w fun e w'=>e = .returned (.bool r) ∧ Drawn0 w w':=by
 have H : (if a0 ≥ 48 then (some (decide (a0 ≤ 57))) else (some false)) = some r:=h
 clear h
 by_cases c2 : a0 ≥ 48
 ·rw [if_pos c2] at H
  have c2b0 : decide (48 ≤ a0) = true:=decide_eq_true c2
  clear c2
  obtain rfl:=Option.some.inj H
  go_enter Tryz.func93,Tryz.ntmps93
  go_wp2
  go_ret
  exact ⟨by first|rfl|(simp;done)|(simp [*];done),by repeat (first|exact Drawn0.refl _|apply Drawn0.step)⟩
 ·rw [if_neg c2] at H
  have c2b0 : decide (48 ≤ a0) = false:=decide_eq_false c2
  clear c2
  obtain rfl:=Option.some.inj H
  go_enter Tryz.func93,Tryz.ntmps93
  go_wp2
  go_ret
  exact ⟨by first|rfl|(simp;done)|(simp [*];done),by repeat (first|exact Drawn0.refl _|apply Drawn0.step)⟩
mutual
def aZ.j0 : Nat → ByteArray → Bool → Option (Bool)
 | 0,_,_=>none
 | k + 1,x0,x23=>if x23 = true then (some false) else (aZ.l0 k x0 (x0.size : Int) 0)
def aZ.l0 : Nat → ByteArray → Int → Int → Option (Bool)
 | 0,_,_,_=>none
 | k + 1,x0,x25,Cc=>if Cc < x25 then (if 0 ≤ Cc then (if Cc < (x0.size : Int) then ((eD.f (bt x0 Cc)).bind fun Ce=>(if Ce = true then (aZ.l0 k x0 x25 (wrap64 (Cc + 1))) else ((dH.f (bt x0 Cc)).bind fun BL=>(if BL = true then (aZ.l0 k x0 x25 (wrap64 (Cc + 1))) else (if (bt x0 Cc) = 45 then (aZ.l0 k x0 x25 (wrap64 (Cc + 1))) else (some false)))))) else (none)) else (none)) else (some true)
end
def aZ.f (k : Nat) (a0 : ByteArray) : Option (Bool):=if a0.toList = ([] : List UInt8) then (aZ.j0 k a0 true) else (if (a0.size : Int) > 63 then (aZ.j0 k a0 true) else (if 0 < (a0.size : Int) then (if (bt a0 0) = 45 then (aZ.j0 k a0 true) else (if 0 ≤ (wrap64 ((a0.size : Int) - 1)) then (if (wrap64 ((a0.size : Int) - 1)) < (a0.size : Int) then (aZ.j0 k a0 ((bt a0 (wrap64 ((a0.size : Int) - 1))) == 45)) else (none)) else (none))) else (none)))
theorem aZ.eB : ∀ k,(∀ y0 y1,LeO (aZ.j0 k y0 y1) (aZ.j0 (k + 1) y0 y1)) ∧ (∀ y0 y1 y2,LeO (aZ.l0 k y0 y1 y2) (aZ.l0 (k + 1) y0 y1 y2))
 | 0=>⟨fun _ _ r h=>by simp [aZ.j0] at h,fun _ _ _ r h=>by simp [aZ.l0] at h⟩
 | k + 1=>by
  obtain ⟨BS,ih1⟩:=aZ.eB k
  refine ⟨?_,?_⟩
  ·intro y0 y1
   unfold aZ.j0
   repeat' first
   | (with_reducible exact BS _ _)
   | (with_reducible exact ih1 _ _ _)
   | (with_reducible exact LeO.refl _)
   | (with_reducible exact LeO.none _)
   | (with_reducible refine LeO.ite ?_ ?_)
   | (with_reducible refine LeO.bind ?_ (fun _=>?_))
   | exact BS _ _
   | exact ih1 _ _ _
   | exact LeO.none _
   | refine LeO.ite ?_ ?_
   | refine LeO.bind ?_ (fun _=>?_)
  ·intro y0 y1 y2
   unfold aZ.l0
   repeat' first
   | (with_reducible exact BS _ _)
   | (with_reducible exact ih1 _ _ _)
   | (with_reducible exact LeO.refl _)
   | (with_reducible exact LeO.none _)
   | (with_reducible refine LeO.ite ?_ ?_)
   | (with_reducible refine LeO.bind ?_ (fun _=>?_))
   | exact BS _ _
   | exact ih1 _ _ _
   | exact LeO.none _
   | refine LeO.ite ?_ ?_
   | refine LeO.bind ?_ (fun _=>?_)
theorem aZ.mono : ∀ a0 k,LeO (aZ.f k a0) (aZ.f (k + 1) a0):=by
 intro a0 k
 obtain ⟨BS,ih1⟩:=aZ.eB k
 unfold aZ.f
 repeat' first
   | (with_reducible exact BS _ _)
   | (with_reducible exact ih1 _ _ _)
   | (with_reducible exact LeO.refl _)
   | (with_reducible exact LeO.none _)
   | (with_reducible refine LeO.ite ?_ ?_)
   | (with_reducible refine LeO.bind ?_ (fun _=>?_))
   | exact BS _ _
   | exact ih1 _ _ _
   | exact LeO.none _
   | refine LeO.ite ?_ ?_
   | refine LeO.bind ?_ (fun _=>?_)
set_option maxHeartbeats 8000000 in
set_option maxRecDepth 100000 in
theorem aZ.calls (k : Nat) (a0 : ByteArray) (r : Bool) (w : World) (h : aZ.f k a0 = some r) :
  Calls Tryz.prog 70 #[.string a0] w fun e w'=>e = .returned (.bool r) ∧ Drawn0 w w':=by
 have H : (if a0.toList = ([] : List UInt8) then (aZ.j0 k a0 true) else (if (a0.size : Int) > 63 then (aZ.j0 k a0 true) else (if 0 < (a0.size : Int) then (if (bt a0 0) = 45 then (aZ.j0 k a0 true) else (if 0 ≤ (wrap64 ((a0.size : Int) - 1)) then (if (wrap64 ((a0.size : Int) - 1)) < (a0.size : Int) then (aZ.j0 k a0 ((bt a0 (wrap64 ((a0.size : Int) - 1))) == 45)) else (none)) else (none))) else (none)))) = some r:=h
 clear h
 have Dc:=Aside0.mk H
 clear H
 go_enter Tryz.func70,Tryz.ntmps70
 go_upto_region 1 with (fail)
 go_cut [23] (fun v23 wc=>∃ (kq : Nat) (BQ : Bool),v23 = .bool BQ ∧ Aside0 (aZ.j0 kq a0 BQ = some r) ∧ Aside0 (kq ≤ k) ∧ Drawn0 w wc)
 case first =>
  have H:=Dc.out
  clear Dc
  by_cases c3 : a0.toList = ([] : List UInt8)
  ·rw [if_pos c3] at H
   have c3b0 : (a0.toList == ([] : List UInt8)) = true:=beq_iff_eq.mpr c3
   have c3b1 : (a0.toList != ([] : List UInt8)) = false:=bne_eq_false_iff_eq.mpr c3
   clear c3
   (first|rw [c3b0]|(simp only [bO,bR];rw [c3b0])|skip)
   have H':=Aside0.mk H
   clear H
   go_wp2
   go_meet
   case rel=>exact ⟨_,(true),(by first|rfl|(simp;done)|(simp [*];done)|exact congrArg Value.bool (cZ _)|exact congrArg Value.bool (cZ _).symm),H',⟨by first|omega|exact Nat.le_refl _⟩,by repeat (first|exact Drawn0.refl _|apply Drawn0.step)⟩
  ·rw [if_neg c3] at H
   have c3b0 : (a0.toList == ([] : List UInt8)) = false:=beq_eq_false_iff_ne.mpr c3
   have c3b1 : (a0.toList != ([] : List UInt8)) = true:=bne_iff_ne.mpr c3
   (first|rw [c3b0]|(simp only [bO,bR];rw [c3b0])|skip)
   by_cases c4 : (a0.size : Int) > 63
   ·rw [if_pos c4] at H
    have c4b0 : decide (63 < (a0.size : Int)) = true:=decide_eq_true c4
    have c4b1 : decide (63 < a0.size) = true:=decide_eq_true (by omega)
    clear c4
    have H':=Aside0.mk H
    clear H
    go_wp2
    go_meet
    case rel=>exact ⟨_,(true),(by first|rfl|(simp;done)|(simp [*];done)|exact congrArg Value.bool (cZ _)|exact congrArg Value.bool (cZ _).symm),H',⟨by first|omega|exact Nat.le_refl _⟩,by repeat (first|exact Drawn0.refl _|apply Drawn0.step)⟩
   ·rw [if_neg c4] at H
    have c4b0 : decide (63 < (a0.size : Int)) = false:=decide_eq_false c4
    have c4b1 : decide (63 < a0.size) = false:=decide_eq_false (by omega)
    clear c4
    by_cases c5 : 0 < (a0.size : Int)
    ·rw [if_pos c5] at H
     have c5b0 : decide (0 < (a0.size : Int)) = true:=decide_eq_true c5
     have c5b1 : decide (0 < a0.size) = true:=decide_eq_true (by omega)
     clear c5
     by_cases c7 : (bt a0 0) = 45
     ·rw [if_pos c7] at H
      have c7b0 : ((bt a0 0) == 45) = true:=beq_iff_eq.mpr c7
      have c7b1 : ((bt a0 0) != 45) = false:=bne_eq_false_iff_eq.mpr c7
      clear c7
      have H':=Aside0.mk H
      clear H
      have p6 : 0 ≤ (0 : Int):=(by omega)
      have q6 : 0 < a0.size:=(by have : (0 : Int) < (a0.size : Int):=of_decide_eq_true (by first|(with_reducible assumption)|assumption);omega)
      have hx6 : ∀ h : 0 < a0.size,((a0[0]'h).toNat : Int) = bt a0 0:=eP a0 0
      clear p6
      have Df : (0 < (a0.size : Int)) = True:=eq_true (of_decide_eq_true (by first|(with_reducible assumption)|assumption))
      replace q6:=eq_true q6
      go_wp2
      go_meet
      case rel=>exact ⟨_,(true),(by first|rfl|(simp;done)|(simp [*];done)|exact congrArg Value.bool (cZ _)|exact congrArg Value.bool (cZ _).symm),H',⟨by first|omega|exact Nat.le_refl _⟩,by repeat (first|exact Drawn0.refl _|apply Drawn0.step)⟩
     ·rw [if_neg c7] at H
      have c7b0 : ((bt a0 0) == 45) = false:=beq_eq_false_iff_ne.mpr c7
      have c7b1 : ((bt a0 0) != 45) = true:=bne_iff_ne.mpr c7
      obtain ⟨BU,Cg⟩ : ∃ j_ : Int,(wrap64 ((a0.size : Int) - 1)) = j_:=⟨_,rfl⟩
      replace H : (if 0 ≤ (BU) then (if (BU) < (a0.size : Int) then (aZ.j0 k a0 ((bt a0 (BU)) == 45)) else (none)) else (none)) = some r:=by first|(rw [Cg] at H;exact H)|(simp only [Cg] at H ⊢;exact H)
      have hji8w : (IntKind.i64.wrap ((a0.size : Int) - 1)) = BU:=(bO _).trans Cg
      by_cases c9 : 0 ≤ (BU)
      ·rw [if_pos c9] at H
       have c9b0 : decide (0 ≤ (BU)) = true:=decide_eq_true c9
       clear c9
       by_cases c10 : (BU) < (a0.size : Int)
       ·rw [if_pos c10] at H
        have c10b0 : decide ((BU) < (a0.size : Int)) = true:=decide_eq_true c10
        clear c10
        have H':=Aside0.mk H
        clear H
        have p6 : 0 ≤ (0 : Int):=(by omega)
        have q6 : 0 < a0.size:=(by have : (0 : Int) < (a0.size : Int):=of_decide_eq_true (by first|(with_reducible assumption)|assumption);omega)
        have hx6 : ∀ h : 0 < a0.size,((a0[0]'h).toNat : Int) = bt a0 0:=eP a0 0
        clear p6
        have Df : (0 < (a0.size : Int)) = True:=eq_true (of_decide_eq_true (by first|(with_reducible assumption)|assumption))
        replace q6:=eq_true q6
        have Ct : 0 ≤ ((BU) : Int):=of_decide_eq_true (by first|(with_reducible assumption)|assumption)
        have Cu : (BU) < (a0.size : Int):=of_decide_eq_true (by first|(with_reducible assumption)|assumption)
        have CO:=eP a0 (BU)
        replace Ct:=eq_true Ct
        replace Cu:=eq_true Cu
        go_wp2
        go_meet
        case rel=>exact ⟨_,(((bt a0 (BU)) == 45)),(by first|rfl|(simp;done)|(simp only [← Cg] <;> (first|rfl|simp))|(simp [*];done)|exact congrArg Value.bool (cZ _)|exact congrArg Value.bool (cZ _).symm),H',⟨by first|omega|exact Nat.le_refl _⟩,by repeat (first|exact Drawn0.refl _|apply Drawn0.step)⟩
       ·rw [if_neg c10] at H
        exact absurd H (by simp)
      ·rw [if_neg c9] at H
       exact absurd H (by simp)
    ·rw [if_neg c5] at H
     exact absurd H (by simp)
 case rest =>
  clear Dc
  try clear c1
  try clear p1
  try clear q1
  try clear hx1
  try clear p2
  try clear c3
  try clear c3b0
  try clear c3b1
  try clear c4
  try clear c4b0
  try clear c4b1
  try clear c5
  try clear c5b0
  try clear c5b1
  try clear p6
  try clear q6
  try clear hx6
  try clear Df
  try clear c7
  try clear c7b0
  try clear c7b1
  try clear c9
  try clear c9b0
  try clear c10
  try clear c10b0
  try clear Ct
  try clear Cu
  try clear CO
  try clear Ct
  try clear p6
  try clear Cu
  try clear q6
  obtain ⟨kq,BQ,rfl,HA,Cv,⟨Dr,rfl⟩⟩:=hcut
  cases kq with
  | zero=>exact absurd HA.out (by simp [aZ.j0])
  | succ Dh =>
   have H:=HA.out
   clear HA
   simp only [aZ.j0] at H
   by_cases c12 : BQ = true
   ·subst c12
    have H1 : (some false) = some r:=by rw [if_pos rfl] at H;exact H
    clear H
    have H:=H1
    clear H1
    obtain rfl:=Option.some.inj H
    go_wp2
    go_ret
    exact ⟨by first|rfl|(simp;done)|(simp [*];done),by repeat (first|exact Drawn0.refl _|apply Drawn0.step)⟩
   ·replace c12:=Bool.eq_false_iff.mpr c12
    subst c12
    have H1 : (aZ.l0 Dh a0 (a0.size : Int) 0) = some r:=by rw [if_neg (show ¬ (false = true) by decide)] at H;exact H
    clear H
    have H:=H1
    clear H1
    have H':=Aside0.mk H
    clear H
    go_wp2
    go_loopg [26] Dh (fun kq v26 w'=>∃ (Bw : Int),v26 = .int .i64 Bw ∧ Aside0 (aZ.l0 kq a0 (a0.size : Int) Bw = some r) ∧ Aside0 (kq ≤ Dh) ∧ Drawn0 w w')
    case atStart=>exact ⟨(0),(by first|rfl|(simp;done)|(simp [*];done)|exact congrArg Value.bool (cZ _)|exact congrArg Value.bool (cZ _).symm),H',⟨Nat.le_refl _⟩,by repeat (first|exact Drawn0.refl _|apply Drawn0.step)⟩
    case round =>
     clear H'
     try clear c1
     try clear p1
     try clear q1
     try clear hx1
     try clear p2
     try clear c3
     try clear c3b0
     try clear c3b1
     try clear c4
     try clear c4b0
     try clear c4b1
     try clear c5
     try clear c5b0
     try clear c5b1
     try clear p6
     try clear q6
     try clear hx6
     try clear Df
     try clear c7
     try clear c7b0
     try clear c7b1
     try clear c9
     try clear c9b0
     try clear c10
     try clear c10b0
     try clear Ct
     try clear Cu
     try clear CO
     try clear c12
     try clear p1
     try clear Ct
     try clear p2
     try clear p6
     try clear q1
     try clear Cu
     try clear q6
     obtain ⟨Bw,rfl,HA,Cw,⟨m2,rfl⟩⟩:=hrel
     cases gk with
     | zero=>exact absurd HA.out (by simp [aZ.l0])
     | succ k2 =>
      have H:=HA.out
      clear HA
      simp only [aZ.l0] at H
      by_cases c13 : Bw < (a0.size : Int)
      ·rw [if_pos c13] at H
       have c13b0 : decide (Bw < (a0.size : Int)) = true:=decide_eq_true c13
       clear c13
       by_cases c14 : 0 ≤ Bw
       ·rw [if_pos c14] at H
        have c14b0 : decide (0 ≤ Bw) = true:=decide_eq_true c14
        clear c14
        by_cases c15 : Bw < (a0.size : Int)
        ·rw [if_pos c15] at H
         have c15b0 : decide (Bw < (a0.size : Int)) = true:=decide_eq_true c15
         clear c15
         replace H:=Option.bind_eq_some_iff.mp H
         obtain ⟨Ce,CP,H⟩:=H
         replace H : (if Ce = true then (aZ.l0 k2 a0 (a0.size : Int) (wrap64 (Bw + 1))) else ((dH.f (bt a0 Bw)).bind fun BL=>(if BL = true then (aZ.l0 k2 a0 (a0.size : Int) (wrap64 (Bw + 1))) else (if (bt a0 Bw) = 45 then (aZ.l0 k2 a0 (a0.size : Int) (wrap64 (Bw + 1))) else (some false))))) = some r:=H
         have CV:=Aside0.mk CP
         clear CP
         by_cases c18 : Ce = true
         ·subst c18
          have H1 : (aZ.l0 k2 a0 (a0.size : Int) (wrap64 (Bw + 1))) = some r:=by rw [if_pos rfl] at H;exact H
          clear H
          have H:=H1
          clear H1
          have H':=Aside0.mk H
          clear H
          have p16 : 0 ≤ (Bw : Int):=of_decide_eq_true (by first|(with_reducible assumption)|assumption)
          have q16 : Bw < (a0.size : Int):=of_decide_eq_true (by first|(with_reducible assumption)|assumption)
          have hx16:=eP a0 Bw
          replace p16:=eq_true p16
          replace q16:=eq_true q16
          go_wp2_with (first|((with_reducible refine bG (f:=92) rfl ?_);refine dJ (some 32) rfl rfl Tryz.func92 (by kernel_rfl) rfl #[.int .u8 (bt a0 Bw)] rfl (by (try simp only [List.map_toArray,List.map_cons,List.map_nil]);first|done|rfl|(simp only [List.length_drop,List.length_take];rfl)|(simp (disch:=first|omega|(simp at *;omega)) only [dK,bW,eG];rfl)) ?_;(with_reducible refine (eD.calls (bt a0 Bw) true _ CV.out).mono ?_);rintro e w' ⟨rfl,⟨nd,rfl⟩⟩;refine ⟨_,rfl,?_⟩))
          go_roundg k2
          case measure=>have:=Cv.out;have:=Cw.out;omega
          case rel=>exact ⟨(wrap64 (Bw + 1)),(by first|rfl|(simp;done)|(simp [*];done)|exact congrArg Value.bool (cZ _)|exact congrArg Value.bool (cZ _).symm),H',⟨by have:=Cv.out;have:=Cw.out;omega⟩,by repeat (first|exact Drawn0.refl _|apply Drawn0.step)⟩
         ·replace c18:=Bool.eq_false_iff.mpr c18
          subst c18
          have H1 : ((dH.f (bt a0 Bw)).bind fun BL=>(if BL = true then (aZ.l0 k2 a0 (a0.size : Int) (wrap64 (Bw + 1))) else (if (bt a0 Bw) = 45 then (aZ.l0 k2 a0 (a0.size : Int) (wrap64 (Bw + 1))) else (some false)))) = some r:=by rw [if_neg (show ¬ (false = true) by decide)] at H;exact H
          clear H
          have H:=H1
          clear H1
          replace H:=Option.bind_eq_some_iff.mp H
          obtain ⟨BL,CQ,H⟩:=H
          replace H : (if BL = true then (aZ.l0 k2 a0 (a0.size : Int) (wrap64 (Bw + 1))) else (if (bt a0 Bw) = 45 then (aZ.l0 k2 a0 (a0.size : Int) (wrap64 (Bw + 1))) else (some false))) = some r:=H
          have Cr:=Aside0.mk CQ
          clear CQ
          by_cases c21 : BL = true
          ·subst c21
           have H1 : (aZ.l0 k2 a0 (a0.size : Int) (wrap64 (Bw + 1))) = some r:=by rw [if_pos rfl] at H;exact H
           clear H
           have H:=H1
           clear H1
           have H':=Aside0.mk H
           clear H
           have p16 : 0 ≤ (Bw : Int):=of_decide_eq_true (by first|(with_reducible assumption)|assumption)
           have q16 : Bw < (a0.size : Int):=of_decide_eq_true (by first|(with_reducible assumption)|assumption)
           have hx16:=eP a0 Bw
           replace p16:=eq_true p16
           replace q16:=eq_true q16
           go_wp2_with (first|((with_reducible refine bG (f:=92) rfl ?_);refine dJ (some 32) rfl rfl Tryz.func92 (by kernel_rfl) rfl #[.int .u8 (bt a0 Bw)] rfl (by (try simp only [List.map_toArray,List.map_cons,List.map_nil]);first|done|rfl|(simp only [List.length_drop,List.length_take];rfl)|(simp (disch:=first|omega|(simp at *;omega)) only [dK,bW,eG];rfl)) ?_;(with_reducible refine (eD.calls (bt a0 Bw) false _ CV.out).mono ?_);rintro e w' ⟨rfl,⟨nd,rfl⟩⟩;refine ⟨_,rfl,?_⟩;have Ci : 0 ≤ (Bw : Int):=of_decide_eq_true (by first|(with_reducible assumption)|assumption);have Cj : Bw < (a0.size : Int):=of_decide_eq_true (by first|(with_reducible assumption)|assumption);have CS:=eP a0 Bw;replace Ci:=eq_true Ci;replace Cj:=eq_true Cj)|(go_at_call 93;(with_reducible refine (dH.calls (bt a0 Bw) true _ Cr.out).mono ?_);rintro e w' ⟨rfl,⟨nd,rfl⟩⟩))
           go_roundg k2
           case measure=>have:=Cv.out;have:=Cw.out;omega
           case rel=>exact ⟨(wrap64 (Bw + 1)),(by first|rfl|(simp;done)|(simp [*];done)|exact congrArg Value.bool (cZ _)|exact congrArg Value.bool (cZ _).symm),H',⟨by have:=Cv.out;have:=Cw.out;omega⟩,by repeat (first|exact Drawn0.refl _|apply Drawn0.step)⟩
          ·replace c21:=Bool.eq_false_iff.mpr c21
           subst c21
           have H1 : (if (bt a0 Bw) = 45 then (aZ.l0 k2 a0 (a0.size : Int) (wrap64 (Bw + 1))) else (some false)) = some r:=by rw [if_neg (show ¬ (false = true) by decide)] at H;exact H
           clear H
           have H:=H1
           clear H1
           by_cases c23 : (bt a0 Bw) = 45
           ·rw [if_pos c23] at H
            have c23b0 : ((bt a0 Bw) == 45) = true:=beq_iff_eq.mpr c23
            have c23b1 : ((bt a0 Bw) != 45) = false:=bne_eq_false_iff_eq.mpr c23
            clear c23
            have H':=Aside0.mk H
            clear H
            have p16 : 0 ≤ (Bw : Int):=of_decide_eq_true (by first|(with_reducible assumption)|assumption)
            have q16 : Bw < (a0.size : Int):=of_decide_eq_true (by first|(with_reducible assumption)|assumption)
            have hx16:=eP a0 Bw
            replace p16:=eq_true p16
            replace q16:=eq_true q16
            go_wp2_with (first|((with_reducible refine bG (f:=92) rfl ?_);refine dJ (some 32) rfl rfl Tryz.func92 (by kernel_rfl) rfl #[.int .u8 (bt a0 Bw)] rfl (by (try simp only [List.map_toArray,List.map_cons,List.map_nil]);first|done|rfl|(simp only [List.length_drop,List.length_take];rfl)|(simp (disch:=first|omega|(simp at *;omega)) only [dK,bW,eG];rfl)) ?_;(with_reducible refine (eD.calls (bt a0 Bw) false _ CV.out).mono ?_);rintro e w' ⟨rfl,⟨nd,rfl⟩⟩;refine ⟨_,rfl,?_⟩;have Ci : 0 ≤ (Bw : Int):=of_decide_eq_true (by first|(with_reducible assumption)|assumption);have Cj : Bw < (a0.size : Int):=of_decide_eq_true (by first|(with_reducible assumption)|assumption);have CS:=eP a0 Bw;replace Ci:=eq_true Ci;replace Cj:=eq_true Cj)|(go_at_call 93;(with_reducible refine (dH.calls (bt a0 Bw) false _ Cr.out).mono ?_);rintro e w' ⟨rfl,⟨nd,rfl⟩⟩;have CU : 0 ≤ (Bw : Int):=of_decide_eq_true (by first|(with_reducible assumption)|assumption);have q22 : Bw < (a0.size : Int):=of_decide_eq_true (by first|(with_reducible assumption)|assumption);have Di:=eP a0 Bw;replace CU:=eq_true CU;replace q22:=eq_true q22))
            go_roundg k2
            case measure=>have:=Cv.out;have:=Cw.out;omega
            case rel=>exact ⟨(wrap64 (Bw + 1)),(by first|rfl|(simp;done)|(simp [*];done)|exact congrArg Value.bool (cZ _)|exact congrArg Value.bool (cZ _).symm),H',⟨by have:=Cv.out;have:=Cw.out;omega⟩,by repeat (first|exact Drawn0.refl _|apply Drawn0.step)⟩
           ·rw [if_neg c23] at H
            have c23b0 : ((bt a0 Bw) == 45) = false:=beq_eq_false_iff_ne.mpr c23
            have c23b1 : ((bt a0 Bw) != 45) = true:=bne_iff_ne.mpr c23
            obtain rfl:=Option.some.inj H
            have p16 : 0 ≤ (Bw : Int):=of_decide_eq_true (by first|(with_reducible assumption)|assumption)
            have q16 : Bw < (a0.size : Int):=of_decide_eq_true (by first|(with_reducible assumption)|assumption)
            have hx16:=eP a0 Bw
            replace p16:=eq_true p16
            replace q16:=eq_true q16
            go_wp2_with (first|((with_reducible refine bG (f:=92) rfl ?_);refine dJ (some 32) rfl rfl Tryz.func92 (by kernel_rfl) rfl #[.int .u8 (bt a0 Bw)] rfl (by (try simp only [List.map_toArray,List.map_cons,List.map_nil]);first|done|rfl|(simp only [List.length_drop,List.length_take];rfl)|(simp (disch:=first|omega|(simp at *;omega)) only [dK,bW,eG];rfl)) ?_;(with_reducible refine (eD.calls (bt a0 Bw) false _ CV.out).mono ?_);rintro e w' ⟨rfl,⟨nd,rfl⟩⟩;refine ⟨_,rfl,?_⟩;have Ci : 0 ≤ (Bw : Int):=of_decide_eq_true (by first|(with_reducible assumption)|assumption);have Cj : Bw < (a0.size : Int):=of_decide_eq_true (by first|(with_reducible assumption)|assumption);have CS:=eP a0 Bw;replace Ci:=eq_true Ci;replace Cj:=eq_true Cj)|(go_at_call 93;(with_reducible refine (dH.calls (bt a0 Bw) false _ Cr.out).mono ?_);rintro e w' ⟨rfl,⟨nd,rfl⟩⟩;have CU : 0 ≤ (Bw : Int):=of_decide_eq_true (by first|(with_reducible assumption)|assumption);have q22 : Bw < (a0.size : Int):=of_decide_eq_true (by first|(with_reducible assumption)|assumption);have Di:=eP a0 Bw;replace CU:=eq_true CU;replace q22:=eq_true q22))
            go_ret
            exact ⟨by first|rfl|(simp;done)|(simp [*];done),by repeat (first|exact Drawn0.refl _|apply Drawn0.step)⟩
        ·rw [if_neg c15] at H
         exact absurd H (by simp)
       ·rw [if_neg c14] at H
        exact absurd H (by simp)
      ·rw [if_neg c13] at H
       have c13b0 : decide (Bw < (a0.size : Int)) = false:=decide_eq_false c13
       clear c13
       obtain rfl:=Option.some.inj H
       go_wp2
       go_ret
       exact ⟨by first|rfl|(simp;done)|(simp [*];done),by repeat (first|exact Drawn0.refl _|apply Drawn0.step)⟩
def fT.f (a0 : Int) : Option (Bool):=if a0 ≥ 65 then (some (decide (a0 ≤ 90))) else (some false)
set_option maxHeartbeats 8000000 in
set_option maxRecDepth 100000 in
theorem fT.calls (a0 : Int) (r : Bool) (w : World) (h : fT.f a0 = some r) :
  Calls Tryz.prog 95 #[.int .u8 a0] w fun e w'=>e = .returned (.bool r) ∧ Drawn0 w w':=by
 have H : (if a0 ≥ 65 then (some (decide (a0 ≤ 90))) else (some false)) = some r:=h
 clear h
 by_cases c2 : a0 ≥ 65
 ·rw [if_pos c2] at H
  have c2b0 : decide (65 ≤ a0) = true:=decide_eq_true c2
  clear c2
  obtain rfl:=Option.some.inj H
  go_enter Tryz.func95,Tryz.ntmps95
  go_wp2
  go_ret
  exact ⟨by first|rfl|(simp;done)|(simp [*];done),by repeat (first|exact Drawn0.refl _|apply Drawn0.step)⟩
 ·rw [if_neg c2] at H
  have c2b0 : decide (65 ≤ a0) = false:=decide_eq_false c2
  clear c2
  obtain rfl:=Option.some.inj H
  go_enter Tryz.func95,Tryz.ntmps95
  go_wp2
  go_ret
  exact ⟨by first|rfl|(simp;done)|(simp [*];done),by repeat (first|exact Drawn0.refl _|apply Drawn0.step)⟩
end Go.Proofs.YtpncpefppifgdaaGreatDoor.GUt
