/- Written by this session's own program (wip/gen.py) out of the translation: plain Lean functions of the Go functions, and proofs that the calls come to their answers. No conditions beside those in the statements. -/
import Derived.Test.YtpflenjhmeaeoaaDoorCp
import Derived.Test.YtpflenjhmeaeoaaDoorGUtx0
namespace Go.Proofs.YtpflenjhmeaeoaaDoor.GUt
open Go.RowKit Go.Proofs.YtpflenjhmeaeoaaDoorW.PrintWords Go.Proofs.YtpflenjhmeaeoaaDoorW.PrintLast Go.Proofs.YtpflenjhmeaeoaaDoorW.PrintMore
attribute [local go_sem] fC fD gu gD eP eT fE fF
set_option linter.unusedVariables false
set_option linter.unusedSimpArgs false
def jC.f (a0 : Int) : Option (Bool):=if a0 = 1 then (some true) else (if a0 = 2 then (some true) else (if a0 = 4 then (some true) else (if a0 = 8 then (some true) else (some false))))
set_option maxHeartbeats 8000000 in
set_option maxRecDepth 100000 in
theorem jC.calls (a0 : Int) (r : Bool) (w : World) (h : jC.f a0 = some r) :
  Calls Tryd.prog 119 #[.int .i64 a0] w fun e w'=>e = .returned (.bool r) ∧ Drawn0 w w':=by
 have H : (if a0 = 1 then (some true) else (if a0 = 2 then (some true) else (if a0 = 4 then (some true) else (if a0 = 8 then (some true) else (some false))))) = some r:=h
 clear h
 by_cases c2 : a0 = 1
 ·rw [if_pos c2] at H
  have c2b0 : (a0 == 1) = true:=beq_iff_eq.mpr c2
  have c2b1 : (a0 != 1) = false:=bne_eq_false_iff_eq.mpr c2
  clear c2
  obtain rfl:=Option.some.inj H
  go_enter Tryd.func119,Tryd.ntmps119
  go_wp2
  go_ret
  exact ⟨by first|rfl|(simp;done)|(simp [*];done),by repeat (first|exact Drawn0.refl _|apply Drawn0.step)⟩
 ·rw [if_neg c2] at H
  have c2b0 : (a0 == 1) = false:=beq_eq_false_iff_ne.mpr c2
  have c2b1 : (a0 != 1) = true:=bne_iff_ne.mpr c2
  by_cases c3 : a0 = 2
  ·rw [if_pos c3] at H
   have c3b0 : (a0 == 2) = true:=beq_iff_eq.mpr c3
   have c3b1 : (a0 != 2) = false:=bne_eq_false_iff_eq.mpr c3
   clear c3
   obtain rfl:=Option.some.inj H
   go_enter Tryd.func119,Tryd.ntmps119
   go_wp2
   go_ret
   exact ⟨by first|rfl|(simp;done)|(simp [*];done),by repeat (first|exact Drawn0.refl _|apply Drawn0.step)⟩
  ·rw [if_neg c3] at H
   have c3b0 : (a0 == 2) = false:=beq_eq_false_iff_ne.mpr c3
   have c3b1 : (a0 != 2) = true:=bne_iff_ne.mpr c3
   by_cases c4 : a0 = 4
   ·rw [if_pos c4] at H
    have c4b0 : (a0 == 4) = true:=beq_iff_eq.mpr c4
    have c4b1 : (a0 != 4) = false:=bne_eq_false_iff_eq.mpr c4
    clear c4
    obtain rfl:=Option.some.inj H
    go_enter Tryd.func119,Tryd.ntmps119
    go_wp2
    go_ret
    exact ⟨by first|rfl|(simp;done)|(simp [*];done),by repeat (first|exact Drawn0.refl _|apply Drawn0.step)⟩
   ·rw [if_neg c4] at H
    have c4b0 : (a0 == 4) = false:=beq_eq_false_iff_ne.mpr c4
    have c4b1 : (a0 != 4) = true:=bne_iff_ne.mpr c4
    by_cases c5 : a0 = 8
    ·rw [if_pos c5] at H
     have c5b0 : (a0 == 8) = true:=beq_iff_eq.mpr c5
     have c5b1 : (a0 != 8) = false:=bne_eq_false_iff_eq.mpr c5
     clear c5
     obtain rfl:=Option.some.inj H
     go_enter Tryd.func119,Tryd.ntmps119
     go_wp2
     go_ret
     exact ⟨by first|rfl|(simp;done)|(simp [*];done),by repeat (first|exact Drawn0.refl _|apply Drawn0.step)⟩
    ·rw [if_neg c5] at H
     have c5b0 : (a0 == 8) = false:=beq_eq_false_iff_ne.mpr c5
     have c5b1 : (a0 != 8) = true:=bne_iff_ne.mpr c5
     obtain rfl:=Option.some.inj H
     go_enter Tryd.func119,Tryd.ntmps119
     go_wp2
     go_ret
     exact ⟨by first|rfl|(simp;done)|(simp [*];done),by repeat (first|exact Drawn0.refl _|apply Drawn0.step)⟩
def bZ.l0 : Nat → Int → Int → List Int → Int → Int → Option (ByteArray)
 | 0,_,_,_,_,_=>none
 | k + 1,x0,x1,x5,BK,AY=>if AY < BK then (if 0 ≤ (wrap64 (8 * AY)) then (if 0 ≤ (wrap64 ((wrap64 (x0 - 1)) - AY)) then (if (wrap64 ((wrap64 (x0 - 1)) - AY)) < (x5.length : Int) then (bZ.l0 k x0 x1 (x5.set ((wrap64 ((wrap64 (x0 - 1)) - AY)) : Int).toNat ((shr .u64 x1 (wrap64 (8 * AY))) % 256)) BK (wrap64 (AY + 1))) else (none)) else (none)) else (none)) else (some (strOfNums x5))
def bZ.f (k : Nat) (a0 : Int) (a1 : Int) : Option (ByteArray):=(jC.f a0).bind fun AP=>(if AP = true then (if 0 ≤ a0 then (if (a0 : Int).toNat ≤ 281474976710656 then (bZ.l0 k a0 a1 (List.replicate (a0 : Int).toNat 0) a0 0) else (none)) else (none)) else (some (⟨#[]⟩ : ByteArray)))
theorem bZ.dV : ∀ k,(∀ y0 y1 y2 y3 y4,LeO (bZ.l0 k y0 y1 y2 y3 y4) (bZ.l0 (k + 1) y0 y1 y2 y3 y4))
 | 0=>fun _ _ _ _ _ r h=>by simp [bZ.l0] at h
 | k + 1=>by
  have Bj:=bZ.dV k
  ·intro y0 y1 y2 y3 y4
   unfold bZ.l0
   repeat' first
   | (with_reducible exact Bj _ _ _ _ _)
   | (with_reducible exact LeO.refl _)
   | (with_reducible exact LeO.none _)
   | (with_reducible refine LeO.ite ?_ ?_)
   | (with_reducible refine LeO.bind ?_ (fun _=>?_))
   | exact Bj _ _ _ _ _
   | exact LeO.none _
   | refine LeO.ite ?_ ?_
   | refine LeO.bind ?_ (fun _=>?_)
theorem bZ.mono : ∀ a0 a1 k,LeO (bZ.f k a0 a1) (bZ.f (k + 1) a0 a1):=by
 intro a0 a1 k
 have Bj:=bZ.dV k
 unfold bZ.f
 repeat' first
   | (with_reducible exact Bj _ _ _ _ _)
   | (with_reducible exact LeO.refl _)
   | (with_reducible exact LeO.none _)
   | (with_reducible refine LeO.ite ?_ ?_)
   | (with_reducible refine LeO.bind ?_ (fun _=>?_))
   | exact Bj _ _ _ _ _
   | exact LeO.none _
   | refine LeO.ite ?_ ?_
   | refine LeO.bind ?_ (fun _=>?_)
set_option maxHeartbeats 8000000 in
set_option maxRecDepth 100000 in
theorem bZ.calls (k : Nat) (a0 : Int) (a1 : Int) (r : ByteArray) (w : World) (h : bZ.f k a0 a1 = some r) :
  Calls Tryd.prog 108 #[.int .i64 a0,.int .u64 a1] w fun e w'=>e = .returned (.string r) ∧ Below w.heap.size w w':=by
 have HB:=Aside0.mk (Below.refl w.heap.size w)
 have H : ((jC.f a0).bind fun AP=>(if AP = true then (if 0 ≤ a0 then (if (a0 : Int).toNat ≤ 281474976710656 then (bZ.l0 k a0 a1 (List.replicate (a0 : Int).toNat 0) a0 0) else (none)) else (none)) else (some (⟨#[]⟩ : ByteArray)))) = some r:=h
 clear h
 replace H:=Option.bind_eq_some_iff.mp H
 obtain ⟨AP,Bl,H⟩:=H
 replace H : (if AP = true then (if 0 ≤ a0 then (if (a0 : Int).toNat ≤ 281474976710656 then (bZ.l0 k a0 a1 (List.replicate (a0 : Int).toNat 0) a0 0) else (none)) else (none)) else (some (⟨#[]⟩ : ByteArray))) = some r:=H
 have A3:=Aside0.mk Bl
 clear Bl
 by_cases c4 : AP = true
 ·subst c4
  have H1 : (if 0 ≤ a0 then (if (a0 : Int).toNat ≤ 281474976710656 then (bZ.l0 k a0 a1 (List.replicate (a0 : Int).toNat 0) a0 0) else (none)) else (none)) = some r:=by rw [if_pos rfl] at H;exact H
  clear H
  have H:=H1
  clear H1
  by_cases c5 : 0 ≤ a0
  ·rw [if_pos c5] at H
   have c5b0:=eq_true c5
   have c5b1 : decide (0 ≤ a0) = true:=decide_eq_true c5
   clear c5
   by_cases c6 : (a0 : Int).toNat ≤ 281474976710656
   ·rw [if_pos c6] at H
    have c6b0:=eq_true c6
    have c6b1 : decide ((a0 : Int).toNat ≤ 281474976710656) = true:=decide_eq_true c6
    clear c6
    obtain ⟨Bn,Az⟩ : ∃ y_ : List Int,y_ = (List.replicate (a0 : Int).toNat 0):=⟨_,rfl⟩
    replace H : (bZ.l0 k a0 a1 Bn a0 0) = some r:=by first|(rw [Az];with_reducible exact H)|(have AZ:=(Option.bind_some _ _).symm.trans H;rw [Az];with_reducible exact AZ)|(have AZ:=(Option.bind_some _ _).symm.trans H;with_reducible exact AZ)|with_reducible exact H|(rw [Az];exact H)|exact H
    have AX:=Aside0.mk Az
    clear Az
    have H':=Aside0.mk H
    clear H
    go_enter Tryd.func108,Tryd.ntmps108
    go_wp2_with (first|((with_reducible refine bq (f:=119) rfl ?_);refine cO (some 8) rfl rfl Tryd.func119 (by kernel_rfl) rfl #[.int .i64 a0] rfl (by (try simp only [List.map_toArray,List.map_cons,List.map_nil]);first|done|rfl|(simp only [List.length_drop,List.length_take];rfl)|(simp (disch:=first|omega|(simp at *;omega)) only [cZ,bS,dQ];rfl)) ?_;(with_reducible refine (jC.calls a0 true _ A3.out).mono ?_);rintro e w' ⟨rfl,⟨nd,rfl⟩⟩;refine ⟨_,rfl,?_⟩)|((with_reducible refine dA (N:=11) rfl ?_);refine Kd.xW (Kd.int .u8) _ 5 rfl (N:=11) rfl 124 _ _ rfl a0 rfl rfl Tryd.underlying124 (.int .u8 0) 1 info5 rfl (by decide) (by omega) 0 (ok:=fun _=>True) (okp:=fun _=>True) rfl (fun _ hk=>hk) trivial (of_decide_eq_true (by first|(with_reducible assumption)|assumption)) (Nat.le_trans (Nat.mul_le_mul_right _ (of_decide_eq_true (by first|(with_reducible assumption)|assumption) : a0.toNat ≤ 281474976710656)) (by omega)) (Below.refl _ _) (Nat.le_refl _) ?_;intro Bw w7 Bo hb hg_ hnew_;clear hg_ hnew_;(first|rw [← AX.out] at Bo|(simp only [Int.reduceToNat] at Bo;rw [← AX.out] at Bo));have Aq:=Aside0.mk (Kd.iI Bo (aY hb_));have Bp:=Aside0.mk (aJ hb_ hb);clear HB;have Bq:=Aq;have HB:=Bp;clear Aq Bp;clear hb Bo))
    go_loopg [13] k (fun kq v13 w'=>∃ (Ao : List Int) (Al : Int),v13 = .int .i64 Al ∧ Aside0 (bZ.l0 kq a0 a1 Ao a0 Al = some r) ∧ Aside0 (kq ≤ k) ∧ Aside0 (Kd.R (Kd.int .u8) 5 w' w.heap.size (fun _=>True) Bw Ao) ∧ Aside0 (Below w.heap.size w w'))
    case atStart=>exact ⟨(Bn),(0),(by first|rfl|(simp;done)|(simp [*];done)),H',⟨Nat.le_refl _⟩,⟨by (with_reducible repeat (first|apply Kd.fA|apply Kd.fB|apply Kd.d9));exact Bq.out⟩,⟨hb_⟩⟩
    case round =>
     clear H'
     try clear c1
     try clear p2
     try clear c4
     try clear c5
     try clear c5b0
     try clear c5b1
     try clear c6
     try clear c6b0
     try clear c6b1
     obtain ⟨Ao,Al,rfl,HA,BL,AJ,HB⟩:=hrel
     cases gk with
     | zero=>exact absurd HA.out (by simp [bZ.l0])
     | succ k1 =>
      have H:=HA.out
      clear HA
      simp only [bZ.l0] at H
      by_cases c9 : Al < a0
      ·rw [if_pos c9] at H
       have c9b0 : decide (Al < a0) = true:=decide_eq_true c9
       clear c9
       obtain ⟨Ay,AQ⟩ : ∃ j_ : Int,(wrap64 (8 * Al)) = j_:=⟨_,rfl⟩
       replace H : (if 0 ≤ (Ay) then (if 0 ≤ (wrap64 ((wrap64 (a0 - 1)) - Al)) then (if (wrap64 ((wrap64 (a0 - 1)) - Al)) < (Ao.length : Int) then (bZ.l0 k1 a0 a1 (Ao.set ((wrap64 ((wrap64 (a0 - 1)) - Al)) : Int).toNat ((shr .u64 a1 (Ay)) % 256)) a0 (wrap64 (Al + 1))) else (none)) else (none)) else (none)) = some r:=by first|(rw [AQ] at H;exact H)|(simp only [AQ] at H ⊢;exact H)
       have hji10w : (IntKind.i64.wrap (8 * Al)) = Ay:=(bH _).trans AQ
       by_cases c11 : 0 ≤ (Ay)
       ·rw [if_pos c11] at H
        have c11b0:=eq_true c11
        have c11b1 : decide (0 ≤ (Ay)) = true:=decide_eq_true c11
        clear c11
        obtain ⟨AL,AO⟩ : ∃ j_ : Int,(shr .u64 a1 (Ay)) = j_:=⟨_,rfl⟩
        replace H : (if 0 ≤ (wrap64 ((wrap64 (a0 - 1)) - Al)) then (if (wrap64 ((wrap64 (a0 - 1)) - Al)) < (Ao.length : Int) then (bZ.l0 k1 a0 a1 (Ao.set ((wrap64 ((wrap64 (a0 - 1)) - Al)) : Int).toNat ((AL) % 256)) a0 (wrap64 (Al + 1))) else (none)) else (none)) = some r:=by first|(rw [AO] at H;exact H)|(simp only [AO] at H ⊢;exact H)
        have Bz : (a1 / 2 ^ min (Ay).toNat 64) = AL:=AO
        have hji12z : (Ay) ≤ 64 → (a1 / 2 ^ (Ay).toNat) = AL:=tT AO
        obtain ⟨Ap,AU⟩ : ∃ j_ : Int,(wrap64 ((wrap64 (a0 - 1)) - Al)) = j_:=⟨_,rfl⟩
        replace H : (if 0 ≤ (Ap) then (if (Ap) < (Ao.length : Int) then (bZ.l0 k1 a0 a1 (Ao.set ((Ap) : Int).toNat ((AL) % 256)) a0 (wrap64 (Al + 1))) else (none)) else (none)) = some r:=by first|(rw [AU] at H;exact H)|(simp only [AU] at H ⊢;exact H)
        have hji13w : (IntKind.i64.wrap ((wrap64 (a0 - 1)) - Al)) = Ap:=(bH _).trans AU
        by_cases c14 : 0 ≤ (Ap)
        ·rw [if_pos c14] at H
         have c14b0 : decide (0 ≤ (Ap)) = true:=decide_eq_true c14
         clear c14
         by_cases c15 : (Ap) < (Ao.length : Int)
         ·rw [if_pos c15] at H
          have c15b0 : decide ((Ap) < (Ao.length : Int)) = true:=decide_eq_true c15
          clear c15
          obtain ⟨Bf,AA⟩ : ∃ y_ : List Int,y_ = (Ao.set ((Ap) : Int).toNat ((AL) % 256)):=⟨_,rfl⟩
          replace H : (bZ.l0 k1 a0 a1 Bf a0 (wrap64 (Al + 1))) = some r:=by first|(rw [AA];with_reducible exact H)|(have AZ:=(Option.bind_some _ _).symm.trans H;rw [AA];with_reducible exact AZ)|(have AZ:=(Option.bind_some _ _).symm.trans H;with_reducible exact AZ)|with_reducible exact H|(rw [AA];exact H)|exact H
          have Br:=Aside0.mk AA
          clear AA
          have H':=Aside0.mk H
          clear H
          have p16 : 0 ≤ ((Ap) : Int):=of_decide_eq_true (by first|(with_reducible assumption)|assumption)
          have q16 : ((Ap) : Int) < ((Ao.length : Int) : Int):=of_decide_eq_true (by first|(with_reducible assumption)|assumption)
          obtain ⟨Bg,BD,Bt,Bu,BF,BQ,Bv⟩:=Kd.xU AJ.out (by omega)
          (first|cases Bt|(injection Bt with ea_ en_ ec_;(first|subst ea_|(injection ea_ with ea_;subst ea_));subst ec_;clear en_))
          have BG:=Aside0.mk Bu
          have BR:=Aside0.mk Bv
          clear Bu BF Bv
          obtain ⟨BH,BI⟩:=Kd.wF 0 AJ.out ((Ap) : Int) p16 q16
          replace p16:=eq_true p16
          replace q16:=eq_true q16
          have Bh:=Kd.xZ AJ.out ((Ap) : Int) ((AL) % 256)
          go_wp2_with (first|((with_reducible refine rD (t:=5) (p:=26) rfl ?_);refine qJ (t:=5) (p:=26) (v:=?vo_w18) (w1:=(wr.setCell ⟨Bg,((Ap) : Int).toNat,none⟩ (.int .u8 ((AL) % 256)))) ?hg ?ho ?hn ?hr ?_;(case ho=>rfl);(case hg=>rfl);(case hn=>rfl);(case hr=>first|(go_simp;done)|(go_simp;rfl));intro BJ hw;have hg : wr.grownBy BJ (some Bg):=(by rw [hw];exact Bh.2);have hp_ : Kd.R (Kd.int .u8) 5 BJ w.heap.size (fun _=>True) (.slice (some ⟨Bg,0,none⟩) Ao.length BD) Bf:=(by rw [hw,Br.out];exact Bh.1);clear Bh;have Aq:=Aside0.mk (hp_);have Bp:=Aside0.mk ((by rw [hw];exact gq (HB.out) BG.out : Below w.heap.size w BJ));clear AJ;clear HB;have AJ:=Aq;have HB:=Bp;clear Aq Bp;clear hg hw hp_))
          go_roundg k1
          case measure=>have:=BL.out;omega
          case rel=>exact ⟨(Bf),(wrap64 (Al + 1)),(by first|rfl|(simp;done)|(simp [*];done)),H',⟨by have:=BL.out;omega⟩,⟨by (with_reducible repeat (first|apply Kd.fA|apply Kd.fB|apply Kd.d9));exact AJ.out⟩,⟨hb_⟩⟩
         ·rw [if_neg c15] at H
          exact absurd H (by simp)
        ·rw [if_neg c14] at H
         exact absurd H (by simp)
       ·rw [if_neg c11] at H
        exact absurd H (by simp)
      ·rw [if_neg c9] at H
       have c9b0 : decide (Al < a0) = false:=decide_eq_false c9
       clear c9
       obtain rfl:=Option.some.inj H
       have BN:=rz (P:=Tryd.prog) Tryd.underlying124 Tryd.underlying5 Tryd.underlying9 (Kd.nN AJ.out)
       go_wp2
       go_ret
       exact ⟨by first|rfl|(simp [aV,aW] <;> rfl)|(simp [*,aV,aW] <;> rfl),hb_⟩
   ·rw [if_neg c6] at H
    exact absurd H (by simp)
  ·rw [if_neg c5] at H
   exact absurd H (by simp)
 ·replace c4:=Bool.eq_false_iff.mpr c4
  subst c4
  have H1 : (some (⟨#[]⟩ : ByteArray)) = some r:=by rw [if_neg (show ¬ (false = true) by decide)] at H;exact H
  clear H
  have H:=H1
  clear H1
  obtain rfl:=Option.some.inj H
  go_enter Tryd.func108,Tryd.ntmps108
  go_wp2_with (first|((with_reducible refine bq (f:=119) rfl ?_);refine cO (some 8) rfl rfl Tryd.func119 (by kernel_rfl) rfl #[.int .i64 a0] rfl (by (try simp only [List.map_toArray,List.map_cons,List.map_nil]);first|done|rfl|(simp only [List.length_drop,List.length_take];rfl)|(simp (disch:=first|omega|(simp at *;omega)) only [cZ,bS,dQ];rfl)) ?_;(with_reducible refine (jC.calls a0 false _ A3.out).mono ?_);rintro e w' ⟨rfl,⟨nd,rfl⟩⟩;refine ⟨_,rfl,?_⟩))
  go_ret
  exact ⟨by first|rfl|(simp [aV,aW] <;> rfl)|(simp [*,aV,aW] <;> rfl),hb_⟩
def gK.f (k : Nat) (a0 : ByteArray) : Option (ByteArray × Int):=if (a0.size : Int) > 4096 then (some ((⟨#[]⟩ : ByteArray),2)) else ((bZ.f k 2 (IntKind.u64.wrap ((a0.size : Int)))).bind fun Au=>(if Au.size + a0.size ≤ 9223372036854775807 then (some (Au ++ a0,0)) else (none)))
theorem gK.mono : ∀ a0 k,LeO (gK.f k a0) (gK.f (k + 1) a0):=by
 intro a0 k
 unfold gK.f
 repeat' first
   | (with_reducible exact bZ.mono _ _ _)
   | (with_reducible exact LeO.refl _)
   | (with_reducible exact LeO.none _)
   | (with_reducible refine LeO.ite ?_ ?_)
   | (with_reducible refine LeO.bind ?_ (fun _=>?_))
   | exact bZ.mono _ _ _
   | exact LeO.none _
   | refine LeO.ite ?_ ?_
   | refine LeO.bind ?_ (fun _=>?_)
set_option maxHeartbeats 8000000 in
set_option maxRecDepth 100000 in
theorem gK.calls (k : Nat) (a0 : ByteArray) (r1 : ByteArray) (r2 : Int) (w : World) (h : gK.f k a0 = some (r1,r2)) :
  Calls Tryd.prog 109 #[.string a0] w fun e w'=>e = .returned (.tuple #[.string r1,.int .i64 r2]) ∧ Below w.heap.size w w':=by
 have HB:=Aside0.mk (Below.refl w.heap.size w)
 have H : (if (a0.size : Int) > 4096 then (some ((⟨#[]⟩ : ByteArray),2)) else ((bZ.f k 2 (IntKind.u64.wrap ((a0.size : Int)))).bind fun Au=>(if Au.size + a0.size ≤ 9223372036854775807 then (some (Au ++ a0,0)) else (none)))) = some (r1,r2):=h
 clear h
 by_cases c2 : (a0.size : Int) > 4096
 ·rw [if_pos c2] at H
  have c2b0 : decide (4096 < (a0.size : Int)) = true:=decide_eq_true c2
  have c2b1 : decide (4096 < a0.size) = true:=decide_eq_true (by omega)
  clear c2
  simp only [Option.some.injEq,Prod.mk.injEq] at H
  obtain ⟨rfl,rfl⟩:=H
  go_enter Tryd.func109,Tryd.ntmps109
  go_wp2
  go_ret2
  exact ⟨by first|rfl|(simp [aV,aW] <;> rfl)|(simp [*,aV,aW] <;> rfl),hb_⟩
 ·rw [if_neg c2] at H
  have c2b0 : decide (4096 < (a0.size : Int)) = false:=decide_eq_false c2
  have c2b1 : decide (4096 < a0.size) = false:=decide_eq_false (by omega)
  clear c2
  replace H:=Option.bind_eq_some_iff.mp H
  obtain ⟨Au,Bl,H⟩:=H
  replace H : (if Au.size + a0.size ≤ 9223372036854775807 then (some (Au ++ a0,0)) else (none)) = some (r1,r2):=H
  have A3:=Aside0.mk Bl
  clear Bl
  by_cases c4 : Au.size + a0.size ≤ 9223372036854775807
  ·rw [if_pos c4] at H
   have c4b0:=eq_true c4
   have c4b1 : decide (Au.size + a0.size ≤ 9223372036854775807) = true:=decide_eq_true c4
   try have c4b2 : (9223372036854775807 < Au.size + a0.size) = False:=eq_false (Nat.not_lt.2 c4)
   simp only [Option.some.injEq,Prod.mk.injEq] at H
   obtain ⟨rfl,rfl⟩:=H
   go_enter Tryd.func109,Tryd.ntmps109
   go_wp2_with (first|((with_reducible refine bq (f:=108) rfl ?_);refine cO (some 10) rfl rfl Tryd.func108 (by kernel_rfl) rfl #[.int .i64 2,.int .u64 (IntKind.u64.wrap ((a0.size : Int)))] rfl (by (try simp only [List.map_toArray,List.map_cons,List.map_nil]);first|done|rfl|(simp only [List.length_drop,List.length_take];rfl)|(simp (disch:=first|omega|(simp at *;omega)) only [cZ,bS,dQ];rfl)) ?_;(with_reducible refine (bZ.calls k 2 (IntKind.u64.wrap ((a0.size : Int))) Au _ A3.out).mono ?_);rintro e w5 ⟨rfl,hb⟩;refine ⟨_,rfl,?_⟩;have Aq:=Aside0.mk (aJ hb_ hb);clear HB;have HB:=Aq;clear Aq;(try clear hb);(try clear hb2);(try clear hk);(try clear hi)))
   go_ret2
   exact ⟨by first|rfl|(simp [aV,aW] <;> rfl)|(simp [*,aV,aW] <;> rfl),hb_⟩
  ·rw [if_neg c4] at H
   exact absurd H (by simp)
def dP.f (k : Nat)  : Option (Bool):=(gK.f k (⟨#[97]⟩ : ByteArray)).bind fun AB=>((bZ.f k 2 258).bind fun Am=>(if Am.toList = ([1,2] : List UInt8) then (if AB.1.toList = ([0,1,97] : List UInt8) then (some (AB.2 == 0)) else (some false)) else (some false)))
theorem dP.mono : ∀ k,LeO (dP.f k ) (dP.f (k + 1) ):=by
 intro  k
 unfold dP.f
 repeat' first
   | (with_reducible exact bZ.mono _ _ _)
   | (with_reducible exact gK.mono _ _)
   | (with_reducible exact LeO.refl _)
   | (with_reducible exact LeO.none _)
   | (with_reducible refine LeO.ite ?_ ?_)
   | (with_reducible refine LeO.bind ?_ (fun _=>?_))
   | exact bZ.mono _ _ _
   | exact gK.mono _ _
   | exact LeO.none _
   | refine LeO.ite ?_ ?_
   | refine LeO.bind ?_ (fun _=>?_)
set_option maxHeartbeats 8000000 in
set_option maxRecDepth 100000 in
theorem dP.calls (k : Nat)  (r : Bool) (w : World) (h : dP.f k  = some r) :
  Calls Tryd.prog 99 #[] w fun e w'=>e = .returned (.bool r) ∧ Below w.heap.size w w':=by
 have HB:=Aside0.mk (Below.refl w.heap.size w)
 have H : ((gK.f k (⟨#[97]⟩ : ByteArray)).bind fun AB=>((bZ.f k 2 258).bind fun Am=>(if Am.toList = ([1,2] : List UInt8) then (if AB.1.toList = ([0,1,97] : List UInt8) then (some (AB.2 == 0)) else (some false)) else (some false)))) = some r:=h
 clear h
 replace H:=Option.bind_eq_some_iff.mp H
 obtain ⟨⟨Aw,AV⟩,BO,H⟩:=H
 replace H : ((bZ.f k 2 258).bind fun Am=>(if Am.toList = ([1,2] : List UInt8) then (if Aw.toList = ([0,1,97] : List UInt8) then (some (AV == 0)) else (some false)) else (some false))) = some r:=H
 have A1:=Aside0.mk BO
 clear BO
 replace H:=Option.bind_eq_some_iff.mp H
 obtain ⟨Am,BP,H⟩:=H
 replace H : (if Am.toList = ([1,2] : List UInt8) then (if Aw.toList = ([0,1,97] : List UInt8) then (some (AV == 0)) else (some false)) else (some false)) = some r:=H
 have A2:=Aside0.mk BP
 clear BP
 by_cases c3 : Am.toList = ([1,2] : List UInt8)
 ·rw [if_pos c3] at H
  have c3b0 : (Am.toList == ([1,2] : List UInt8)) = true:=beq_iff_eq.mpr c3
  have c3b1 : (Am.toList != ([1,2] : List UInt8)) = false:=bne_eq_false_iff_eq.mpr c3
  clear c3
  by_cases c4 : Aw.toList = ([0,1,97] : List UInt8)
  ·rw [if_pos c4] at H
   have c4b0 : (Aw.toList == ([0,1,97] : List UInt8)) = true:=beq_iff_eq.mpr c4
   have c4b1 : (Aw.toList != ([0,1,97] : List UInt8)) = false:=bne_eq_false_iff_eq.mpr c4
   clear c4
   obtain rfl:=Option.some.inj H
   go_enter Tryd.func99,Tryd.ntmps99
   go_wp2_with (first|((with_reducible refine bq (f:=109) rfl ?_);refine cO (some 4) rfl rfl Tryd.func109 (by kernel_rfl) rfl #[.string (⟨#[97]⟩ : ByteArray)] rfl (by (try simp only [List.map_toArray,List.map_cons,List.map_nil]);first|done|rfl|(simp only [List.length_drop,List.length_take];rfl)|(simp (disch:=first|omega|(simp at *;omega)) only [cZ,bS,dQ];rfl)) ?_;(with_reducible refine (gK.calls k (⟨#[97]⟩ : ByteArray) Aw AV _ A1.out).mono ?_);rintro e w5 ⟨rfl,hb⟩;refine ⟨_,rfl,?_⟩;have Aq:=Aside0.mk (aJ hb_ hb);clear HB;have HB:=Aq;clear Aq;(try clear hb);(try clear hb2);(try clear hk);(try clear hi))|((with_reducible refine bq (f:=108) rfl ?_);refine cO (some 7) rfl rfl Tryd.func108 (by kernel_rfl) rfl #[.int .i64 2,.int .u64 258] rfl (by (try simp only [List.map_toArray,List.map_cons,List.map_nil]);first|done|rfl|(simp only [List.length_drop,List.length_take];rfl)|(simp (disch:=first|omega|(simp at *;omega)) only [cZ,bS,dQ];rfl)) ?_;(with_reducible refine (bZ.calls k 2 258 Am _ A2.out).mono ?_);rintro e w6 ⟨rfl,hb⟩;refine ⟨_,rfl,?_⟩;have Aq:=Aside0.mk (aJ hb_ hb);clear HB;have HB:=Aq;clear Aq;(try clear hb);(try clear hb2);(try clear hk);(try clear hi)))
   go_ret
   exact ⟨by first|rfl|(simp [aV,aW] <;> rfl)|(simp [*,aV,aW] <;> rfl),hb_⟩
  ·rw [if_neg c4] at H
   have c4b0 : (Aw.toList == ([0,1,97] : List UInt8)) = false:=beq_eq_false_iff_ne.mpr c4
   have c4b1 : (Aw.toList != ([0,1,97] : List UInt8)) = true:=bne_iff_ne.mpr c4
   obtain rfl:=Option.some.inj H
   go_enter Tryd.func99,Tryd.ntmps99
   go_wp2_with (first|((with_reducible refine bq (f:=109) rfl ?_);refine cO (some 4) rfl rfl Tryd.func109 (by kernel_rfl) rfl #[.string (⟨#[97]⟩ : ByteArray)] rfl (by (try simp only [List.map_toArray,List.map_cons,List.map_nil]);first|done|rfl|(simp only [List.length_drop,List.length_take];rfl)|(simp (disch:=first|omega|(simp at *;omega)) only [cZ,bS,dQ];rfl)) ?_;(with_reducible refine (gK.calls k (⟨#[97]⟩ : ByteArray) Aw AV _ A1.out).mono ?_);rintro e w7 ⟨rfl,hb⟩;refine ⟨_,rfl,?_⟩;have Aq:=Aside0.mk (aJ hb_ hb);clear HB;have HB:=Aq;clear Aq;(try clear hb);(try clear hb2);(try clear hk);(try clear hi))|((with_reducible refine bq (f:=108) rfl ?_);refine cO (some 7) rfl rfl Tryd.func108 (by kernel_rfl) rfl #[.int .i64 2,.int .u64 258] rfl (by (try simp only [List.map_toArray,List.map_cons,List.map_nil]);first|done|rfl|(simp only [List.length_drop,List.length_take];rfl)|(simp (disch:=first|omega|(simp at *;omega)) only [cZ,bS,dQ];rfl)) ?_;(with_reducible refine (bZ.calls k 2 258 Am _ A2.out).mono ?_);rintro e w8 ⟨rfl,hb⟩;refine ⟨_,rfl,?_⟩;have Aq:=Aside0.mk (aJ hb_ hb);clear HB;have HB:=Aq;clear Aq;(try clear hb);(try clear hb2);(try clear hk);(try clear hi)))
   go_ret
   exact ⟨by first|rfl|(simp [aV,aW] <;> rfl)|(simp [*,aV,aW] <;> rfl),hb_⟩
 ·rw [if_neg c3] at H
  have c3b0 : (Am.toList == ([1,2] : List UInt8)) = false:=beq_eq_false_iff_ne.mpr c3
  have c3b1 : (Am.toList != ([1,2] : List UInt8)) = true:=bne_iff_ne.mpr c3
  obtain rfl:=Option.some.inj H
  go_enter Tryd.func99,Tryd.ntmps99
  go_wp2_with (first|((with_reducible refine bq (f:=109) rfl ?_);refine cO (some 4) rfl rfl Tryd.func109 (by kernel_rfl) rfl #[.string (⟨#[97]⟩ : ByteArray)] rfl (by (try simp only [List.map_toArray,List.map_cons,List.map_nil]);first|done|rfl|(simp only [List.length_drop,List.length_take];rfl)|(simp (disch:=first|omega|(simp at *;omega)) only [cZ,bS,dQ];rfl)) ?_;(with_reducible refine (gK.calls k (⟨#[97]⟩ : ByteArray) Aw AV _ A1.out).mono ?_);rintro e w9 ⟨rfl,hb⟩;refine ⟨_,rfl,?_⟩;have Aq:=Aside0.mk (aJ hb_ hb);clear HB;have HB:=Aq;clear Aq;(try clear hb);(try clear hb2);(try clear hk);(try clear hi))|((with_reducible refine bq (f:=108) rfl ?_);refine cO (some 7) rfl rfl Tryd.func108 (by kernel_rfl) rfl #[.int .i64 2,.int .u64 258] rfl (by (try simp only [List.map_toArray,List.map_cons,List.map_nil]);first|done|rfl|(simp only [List.length_drop,List.length_take];rfl)|(simp (disch:=first|omega|(simp at *;omega)) only [cZ,bS,dQ];rfl)) ?_;(with_reducible refine (bZ.calls k 2 258 Am _ A2.out).mono ?_);rintro e BS ⟨rfl,hb⟩;refine ⟨_,rfl,?_⟩;have Aq:=Aside0.mk (aJ hb_ hb);clear HB;have HB:=Aq;clear Aq;(try clear hb);(try clear hb2);(try clear hk);(try clear hi)))
  go_ret
  exact ⟨by first|rfl|(simp [aV,aW] <;> rfl)|(simp [*,aV,aW] <;> rfl),hb_⟩
end Go.Proofs.YtpflenjhmeaeoaaDoor.GUt
