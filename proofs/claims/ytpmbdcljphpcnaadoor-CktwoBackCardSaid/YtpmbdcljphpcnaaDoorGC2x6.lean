/- Written by this session's own program (wip/gen.py) out of the translation: plain Lean functions of the Go functions, and proofs that the calls come to their answers. No conditions beside those in the statements. -/
import Derived.Test.YtpmbdcljphpcnaaDoorGC2x0
import Derived.Test.YtpmbdcljphpcnaaDoorGC2x3
namespace Go.Proofs.YtpmbdcljphpcnaaDoor.GC2
open Go.RowKit Go.Proofs.YtpmbdcljphpcnaaDoorW.PrintWords Go.Proofs.YtpmbdcljphpcnaaDoorW.PrintLast Go.Proofs.YtpmbdcljphpcnaaDoorW.PrintMore
attribute [local go_sem] max2_int min2_int max_two min_two max_three min_three max_four min_four   -- for this text's walks alone
set_option linter.unusedVariables false
set_option linter.unusedSimpArgs false

/-! ### pack_size: function 71 -/
def pack_size.f (a0 : Int) : Option (Bool):=if a0 = 1 then (some true) else (if a0 = 2 then (some true) else (if a0 = 4 then (some true) else (if a0 = 8 then (some true) else (some false))))
set_option maxHeartbeats 8000000 in
set_option maxRecDepth 100000 in
theorem pack_size.calls (a0 : Int) (r : Bool) (w : World) (h : pack_size.f a0 = some r) :
  Calls Tryd.prog 71 #[.int .i64 a0] w fun e w'=>e = .returned (.bool r) ∧ Drawn0 w w':=by
 have H : (if a0 = 1 then (some true) else (if a0 = 2 then (some true) else (if a0 = 4 then (some true) else (if a0 = 8 then (some true) else (some false))))) = some r:=h
 clear h
 by_cases c2 : a0 = 1
 ·rw [if_pos c2] at H
  have c2b0 : (a0 == 1) = true:=beq_iff_eq.mpr c2
  have c2b1 : (a0 != 1) = false:=bne_eq_false_iff_eq.mpr c2
  clear c2
  obtain rfl:=Option.some.inj H
  go_enter Tryd.func71,Tryd.ntmps71
  go_wp2
  go_ret
  exact ⟨by first|rfl|(simp;done)|(simp [*];done),by repeat (first|exact Drawn0.refl _|apply Drawn0.step)⟩
 ·rw [if_neg c2] at H
  have c2b0 : (a0 == 1) = false:=beq_eq_false_iff_ne.mpr c2
  have c2b1 : (a0 != 1) = true:=bne_iff_ne.mpr c2
  by_cases c3 : a0 = 2
  ·rw [if_pos c3] at H
   have c3b0 : (a0 == 2) = true:=beq_iff_eq.mpr c3
   have c3b1 : (a0 != 2) = false:=bne_eq_false_iff_eq.mpr c3
   clear c3
   obtain rfl:=Option.some.inj H
   go_enter Tryd.func71,Tryd.ntmps71
   go_wp2
   go_ret
   exact ⟨by first|rfl|(simp;done)|(simp [*];done),by repeat (first|exact Drawn0.refl _|apply Drawn0.step)⟩
  ·rw [if_neg c3] at H
   have c3b0 : (a0 == 2) = false:=beq_eq_false_iff_ne.mpr c3
   have c3b1 : (a0 != 2) = true:=bne_iff_ne.mpr c3
   by_cases c4 : a0 = 4
   ·rw [if_pos c4] at H
    have c4b0 : (a0 == 4) = true:=beq_iff_eq.mpr c4
    have c4b1 : (a0 != 4) = false:=bne_eq_false_iff_eq.mpr c4
    clear c4
    obtain rfl:=Option.some.inj H
    go_enter Tryd.func71,Tryd.ntmps71
    go_wp2
    go_ret
    exact ⟨by first|rfl|(simp;done)|(simp [*];done),by repeat (first|exact Drawn0.refl _|apply Drawn0.step)⟩
   ·rw [if_neg c4] at H
    have c4b0 : (a0 == 4) = false:=beq_eq_false_iff_ne.mpr c4
    have c4b1 : (a0 != 4) = true:=bne_iff_ne.mpr c4
    by_cases c5 : a0 = 8
    ·rw [if_pos c5] at H
     have c5b0 : (a0 == 8) = true:=beq_iff_eq.mpr c5
     have c5b1 : (a0 != 8) = false:=bne_eq_false_iff_eq.mpr c5
     clear c5
     obtain rfl:=Option.some.inj H
     go_enter Tryd.func71,Tryd.ntmps71
     go_wp2
     go_ret
     exact ⟨by first|rfl|(simp;done)|(simp [*];done),by repeat (first|exact Drawn0.refl _|apply Drawn0.step)⟩
    ·rw [if_neg c5] at H
     have c5b0 : (a0 == 8) = false:=beq_eq_false_iff_ne.mpr c5
     have c5b1 : (a0 != 8) = true:=bne_iff_ne.mpr c5
     obtain rfl:=Option.some.inj H
     go_enter Tryd.func71,Tryd.ntmps71
     go_wp2
     go_ret
     exact ⟨by first|rfl|(simp;done)|(simp [*];done),by repeat (first|exact Drawn0.refl _|apply Drawn0.step)⟩

/-! ### pack_Put: function 38 -/
def pack_Put.l0 : Nat → Int → Int → List Int → Int → Int → Option (ByteArray)
 | 0,_,_,_,_,_=>none
 | k + 1,x0,x1,x5,x12,x13=>if x13 < x12 then (if 0 ≤ (wrap64 (8 * x13)) then (if 0 ≤ (wrap64 ((wrap64 (x0 - 1)) - x13)) then (if (wrap64 ((wrap64 (x0 - 1)) - x13)) < (x5.length : Int) then (pack_Put.l0 k x0 x1 (x5.set ((wrap64 ((wrap64 (x0 - 1)) - x13)) : Int).toNat ((shr .u64 x1 (wrap64 (8 * x13))) % 256)) x12 (wrap64 (x13 + 1))) else (none)) else (none)) else (none)) else (some (strOfNums x5))
def pack_Put.f (k : Nat) (a0 : Int) (a1 : Int) : Option (ByteArray):=(pack_size.f a0).bind fun t125=>(if t125 = true then (if 0 ≤ a0 then (if (a0 : Int).toNat ≤ 281474976710656 then (pack_Put.l0 k a0 a1 (List.replicate (a0 : Int).toNat 0) a0 0) else (none)) else (none)) else (some (⟨#[]⟩ : ByteArray)))
theorem pack_Put.mono_l : ∀ k,(∀ y0 y1 y2 y3 y4,LeO (pack_Put.l0 k y0 y1 y2 y3 y4) (pack_Put.l0 (k + 1) y0 y1 y2 y3 y4))
 | 0=>fun _ _ _ _ _ r h=>by simp [pack_Put.l0] at h
 | k + 1=>by
  have ih0:=pack_Put.mono_l k
  ·intro y0 y1 y2 y3 y4
   unfold pack_Put.l0
   repeat' first
   | (with_reducible exact ih0 _ _ _ _ _)
   | (with_reducible exact LeO.refl _)
   | (with_reducible exact LeO.none _)
   | (with_reducible refine LeO.ite ?_ ?_)
   | (with_reducible refine LeO.bind ?_ (fun _=>?_))
   | exact ih0 _ _ _ _ _
   | exact LeO.none _
   | refine LeO.ite ?_ ?_
   | refine LeO.bind ?_ (fun _=>?_)
theorem pack_Put.mono : ∀ a0 a1 k,LeO (pack_Put.f k a0 a1) (pack_Put.f (k + 1) a0 a1):=by
 intro a0 a1 k
 have ih0:=pack_Put.mono_l k
 unfold pack_Put.f
 repeat' first
   | (with_reducible exact ih0 _ _ _ _ _)
   | (with_reducible exact LeO.refl _)
   | (with_reducible exact LeO.none _)
   | (with_reducible refine LeO.ite ?_ ?_)
   | (with_reducible refine LeO.bind ?_ (fun _=>?_))
   | exact ih0 _ _ _ _ _
   | exact LeO.none _
   | refine LeO.ite ?_ ?_
   | refine LeO.bind ?_ (fun _=>?_)
set_option maxHeartbeats 8000000 in
set_option maxRecDepth 100000 in
theorem pack_Put.calls (k : Nat) (a0 : Int) (a1 : Int) (r : ByteArray) (w : World) (h : pack_Put.f k a0 a1 = some r) :
  Calls Tryd.prog 38 #[.int .i64 a0,.int .u64 a1] w fun e w'=>e = .returned (.string r) ∧ Below w.heap.size w w':=by
 have HB:=Aside0.mk (Below.refl w.heap.size w)
 have H : ((pack_size.f a0).bind fun t125=>(if t125 = true then (if 0 ≤ a0 then (if (a0 : Int).toNat ≤ 281474976710656 then (pack_Put.l0 k a0 a1 (List.replicate (a0 : Int).toNat 0) a0 0) else (none)) else (none)) else (some (⟨#[]⟩ : ByteArray)))) = some r:=h
 clear h
 replace H:=Option.bind_eq_some_iff.mp H
 obtain ⟨t125,A30,H⟩:=H
 replace H : (if t125 = true then (if 0 ≤ a0 then (if (a0 : Int).toNat ≤ 281474976710656 then (pack_Put.l0 k a0 a1 (List.replicate (a0 : Int).toNat 0) a0 0) else (none)) else (none)) else (some (⟨#[]⟩ : ByteArray))) = some r:=H
 have A3:=Aside0.mk A30
 clear A30
 by_cases c4 : t125 = true
 ·subst c4
  have H1 : (if 0 ≤ a0 then (if (a0 : Int).toNat ≤ 281474976710656 then (pack_Put.l0 k a0 a1 (List.replicate (a0 : Int).toNat 0) a0 0) else (none)) else (none)) = some r:=by rw [if_pos rfl] at H;exact H
  clear H
  have H:=H1
  clear H1
  by_cases c5 : 0 ≤ a0
  ·rw [if_pos c5] at H
   have c5b0:=eq_true c5
   have c5b1 : decide (0 ≤ a0) = true:=decide_eq_true c5
   clear c5
   by_cases c6 : (a0 : Int).toNat ≤ 281474976710656
   ·rw [if_pos c6] at H
    have c6b0:=eq_true c6
    have c6b1 : decide ((a0 : Int).toNat ≤ 281474976710656) = true:=decide_eq_true c6
    clear c6
    obtain ⟨y126,hy126⟩ : ∃ y_ : List Int,y_ = (List.replicate (a0 : Int).toNat 0):=⟨_,rfl⟩
    replace H : (pack_Put.l0 k a0 a1 y126 a0 0) = some r:=by first|(rw [hy126];with_reducible exact H)|(have H2_:=(Option.bind_some _ _).symm.trans H;rw [hy126];with_reducible exact H2_)|(have H2_:=(Option.bind_some _ _).symm.trans H;with_reducible exact H2_)|with_reducible exact H|(rw [hy126];exact H)|exact H
    have Ny126:=Aside0.mk hy126
    clear hy126
    have H':=Aside0.mk H
    clear H
    go_enter Tryd.func38,Tryd.ntmps38
    go_wp2_with (first|((with_reducible refine gate_callee (f:=71) rfl ?_);refine goesL_ (some 8) rfl rfl Tryd.func71 (by kernel_rfl) rfl #[.int .i64 a0] rfl (by (try simp only [List.map_toArray,List.map_cons,List.map_nil]);first|done|rfl|(simp only [List.length_drop,List.length_take];rfl)|(simp (disch:=first|omega|(simp at *;omega)) only [u64_id,i64_id,u8_id];rfl)) ?_;(with_reducible refine (pack_size.calls a0 true _ A3.out).mono ?_);rintro e w' ⟨rfl,⟨nd,rfl⟩⟩;refine ⟨_,rfl,?_⟩)|((with_reducible refine gate_dst (N:=11) rfl ?_);refine Kd.R_make (Kd.int .u8) _ 5 rfl (N:=11) rfl 69 _ _ rfl a0 rfl rfl Tryd.underlying69 (.int .u8 0) 1 info5 rfl (by decide) (by omega) 0 (ok:=fun _=>True) (okp:=fun _=>True) rfl (fun _ hk=>hk) trivial (of_decide_eq_true (by first|(with_reducible assumption)|assumption)) (Nat.le_trans (Nat.mul_le_mul_right _ (of_decide_eq_true (by first|(with_reducible assumption)|assumption) : a0.toNat ≤ 281474976710656)) (by omega)) (Below.refl _ _) (Nat.le_refl _) ?_;intro v127 w7 ho8 hb hg_ hnew_;clear hg_ hnew_;(first|rw [← Ny126.out] at ho8|(simp only [Int.reduceToNat] at ho8;rw [← Ny126.out] at ho8));have n0_:=Aside0.mk (Kd.R_lower ho8 (below_size (by repeat (first|(with_reducible first|exact HB.out|apply below_alloc|apply pw_below_drewN|apply below_drew1)|exact HB.out))));have n1_:=Aside0.mk (below_step (by repeat (first|(with_reducible first|exact HB.out|apply below_alloc|apply pw_below_drewN|apply below_drew1)|exact HB.out)) hb);clear HB;have HO128:=n0_;have HB:=n1_;clear n0_ n1_;clear hb ho8))
    go_loopg [13] k (fun kq v13 w'=>∃ (x5_1 : List Int) (x13_1 : Int),v13 = .int .i64 x13_1 ∧ Aside0 (pack_Put.l0 kq a0 a1 x5_1 a0 x13_1 = some r) ∧ Aside0 (kq ≤ k) ∧ Aside0 (Kd.R (Kd.int .u8) 5 w' w.heap.size (fun _=>True) v127 x5_1) ∧ Aside0 (Below w.heap.size w w'))
    case atStart=>exact ⟨(y126),(0),(by first|rfl|(simp;done)|(simp [*];done)),H',⟨Nat.le_refl _⟩,⟨by (with_reducible repeat (first|apply Kd.R_alloc|apply Kd.R_drewN|apply Kd.R_drew));exact HO128.out⟩,⟨by repeat (first|(with_reducible first|exact HB.out|apply below_alloc|apply pw_below_drewN|apply below_drew1)|exact HB.out)⟩⟩
    case round =>
     clear H'
     try clear p2
     try clear c3
     try clear c4
     try clear c5
     try clear c5b0
     try clear c5b1
     try clear c6
     try clear c6b0
     try clear c6b1
     try clear c7
     obtain ⟨x5_1,x13_1,rfl,HA,HK1,HO_5,HB⟩:=hrel
     cases gk with
     | zero=>exact absurd HA.out (by simp [pack_Put.l0])
     | succ k1 =>
      have H:=HA.out
      clear HA
      simp only [pack_Put.l0] at H
      by_cases c9 : x13_1 < a0
      ·rw [if_pos c9] at H
       have c9b0 : decide (x13_1 < a0) = true:=decide_eq_true c9
       clear c9
       obtain ⟨ji10,hji10⟩ : ∃ j_ : Int,(wrap64 (8 * x13_1)) = j_:=⟨_,rfl⟩
       replace H : (if 0 ≤ (ji10) then (if 0 ≤ (wrap64 ((wrap64 (a0 - 1)) - x13_1)) then (if (wrap64 ((wrap64 (a0 - 1)) - x13_1)) < (x5_1.length : Int) then (pack_Put.l0 k1 a0 a1 (x5_1.set ((wrap64 ((wrap64 (a0 - 1)) - x13_1)) : Int).toNat ((shr .u64 a1 (ji10)) % 256)) a0 (wrap64 (x13_1 + 1))) else (none)) else (none)) else (none)) = some r:=by first|(rw [hji10] at H;exact H)|(simp only [hji10] at H ⊢;exact H)
       have hji10w : (IntKind.i64.wrap (8 * x13_1)) = ji10:=(i64_w _).trans hji10
       by_cases c11 : 0 ≤ (ji10)
       ·rw [if_pos c11] at H
        have c11b0:=eq_true c11
        have c11b1 : decide (0 ≤ (ji10)) = true:=decide_eq_true c11
        clear c11
        obtain ⟨ji12,hji12⟩ : ∃ j_ : Int,(shr .u64 a1 (ji10)) = j_:=⟨_,rfl⟩
        replace H : (if 0 ≤ (wrap64 ((wrap64 (a0 - 1)) - x13_1)) then (if (wrap64 ((wrap64 (a0 - 1)) - x13_1)) < (x5_1.length : Int) then (pack_Put.l0 k1 a0 a1 (x5_1.set ((wrap64 ((wrap64 (a0 - 1)) - x13_1)) : Int).toNat ((ji12) % 256)) a0 (wrap64 (x13_1 + 1))) else (none)) else (none)) = some r:=by first|(rw [hji12] at H;exact H)|(simp only [hji12] at H ⊢;exact H)
        have hji12_ : (a1 / 2 ^ min (ji10).toNat 64) = ji12:=hji12
        have hji12z : (ji10) ≤ 64 → (a1 / 2 ^ (ji10).toNat) = ji12:=shr_small hji12
        obtain ⟨ji13,hji13⟩ : ∃ j_ : Int,(wrap64 ((wrap64 (a0 - 1)) - x13_1)) = j_:=⟨_,rfl⟩
        replace H : (if 0 ≤ (ji13) then (if (ji13) < (x5_1.length : Int) then (pack_Put.l0 k1 a0 a1 (x5_1.set ((ji13) : Int).toNat ((ji12) % 256)) a0 (wrap64 (x13_1 + 1))) else (none)) else (none)) = some r:=by first|(rw [hji13] at H;exact H)|(simp only [hji13] at H ⊢;exact H)
        have hji13w : (IntKind.i64.wrap ((wrap64 (a0 - 1)) - x13_1)) = ji13:=(i64_w _).trans hji13
        by_cases c14 : 0 ≤ (ji13)
        ·rw [if_pos c14] at H
         have c14b0 : decide (0 ≤ (ji13)) = true:=decide_eq_true c14
         clear c14
         by_cases c15 : (ji13) < (x5_1.length : Int)
         ·rw [if_pos c15] at H
          have c15b0 : decide ((ji13) < (x5_1.length : Int)) = true:=decide_eq_true c15
          clear c15
          obtain ⟨y129,hy129⟩ : ∃ y_ : List Int,y_ = (x5_1.set ((ji13) : Int).toNat ((ji12) % 256)):=⟨_,rfl⟩
          replace H : (pack_Put.l0 k1 a0 a1 y129 a0 (wrap64 (x13_1 + 1))) = some r:=by first|(rw [hy129];with_reducible exact H)|(have H2_:=(Option.bind_some _ _).symm.trans H;rw [hy129];with_reducible exact H2_)|(have H2_:=(Option.bind_some _ _).symm.trans H;with_reducible exact H2_)|with_reducible exact H|(rw [hy129];exact H)|exact H
          have Ny129:=Aside0.mk hy129
          clear hy129
          have H':=Aside0.mk H
          clear H
          have p16 : 0 ≤ ((ji13) : Int):=of_decide_eq_true (by first|(with_reducible assumption)|assumption)
          have q16 : ((ji13) : Int) < ((x5_1.length : Int) : Int):=of_decide_eq_true (by first|(with_reducible assumption)|assumption)
          obtain ⟨go16,co16,eo16,gb16,gl16,cl16,HG16⟩:=Kd.R_form HO_5.out (by omega)
          (first|cases eo16|(injection eo16 with ea_ en_ ec_;(first|subst ea_|(injection ea_ with ea_;subst ea_));subst ec_;clear en_))
          have GB16:=Aside0.mk gb16
          have GG16:=Aside0.mk HG16
          clear gb16 gl16 HG16
          obtain ⟨hx16_0,hf16_0⟩:=Kd.R_celln 0 HO_5.out ((ji13) : Int) p16 q16
          replace p16:=eq_true p16
          replace q16:=eq_true q16
          have HP17:=Kd.R_putg HO_5.out ((ji13) : Int) ((ji12) % 256)
          go_wp2_with (first|((with_reducible refine gate_store (t:=5) (p:=26) rfl ?_);refine store_event (t:=5) (p:=26) (v:=?vo_w18) (w1:=(wr.setCell ⟨go16,((ji13) : Int).toNat,none⟩ (.int .u8 ((ji12) % 256)))) ?hg ?ho ?hn ?hr ?_;(case ho=>rfl);(case hg=>rfl);(case hn=>rfl);(case hr=>first|(go_simp;done)|(go_simp;rfl));intro w18 hw;have hg : wr.grownBy w18 (some go16):=(by rw [hw];exact HP17.2);have hp_ : Kd.R (Kd.int .u8) 5 w18 w.heap.size (fun _=>True) (.slice (some ⟨go16,0,none⟩) x5_1.length co16) y129:=(by rw [hw,Ny129.out];exact HP17.1);clear HP17;have n0_:=Aside0.mk (hp_);have n1_:=Aside0.mk ((by rw [hw];exact below_set (HB.out) GB16.out : Below w.heap.size w w18));clear HO_5;clear HB;have HO_5:=n0_;have HB:=n1_;clear n0_ n1_;clear hg hw hp_))
          go_roundg k1
          case measure=>have:=HK1.out;omega
          case rel=>exact ⟨(y129),(wrap64 (x13_1 + 1)),(by first|rfl|(simp;done)|(simp [*];done)),H',⟨by have:=HK1.out;omega⟩,⟨by (with_reducible repeat (first|apply Kd.R_alloc|apply Kd.R_drewN|apply Kd.R_drew));exact HO_5.out⟩,⟨by repeat (first|(with_reducible first|exact HB.out|apply below_alloc|apply pw_below_drewN|apply below_drew1)|exact HB.out)⟩⟩
         ·rw [if_neg c15] at H
          exact absurd H (by simp)
        ·rw [if_neg c14] at H
         exact absurd H (by simp)
       ·rw [if_neg c11] at H
        exact absurd H (by simp)
      ·rw [if_neg c9] at H
       have c9b0 : decide (x13_1 < a0) = false:=decide_eq_false c9
       clear c9
       obtain rfl:=Option.some.inj H
       have hcv19:=own_string (P:=Tryd.prog) Tryd.underlying69 Tryd.underlying5 Tryd.underlying9 (Kd.own_of_R HO_5.out)
       go_wp2
       go_ret
       exact ⟨by first|rfl|(simp [errW_none,errW_some] <;> rfl)|(simp [*,errW_none,errW_some] <;> rfl),by repeat (first|(with_reducible first|exact HB.out|apply below_alloc|apply pw_below_drewN|apply below_drew1)|exact HB.out)⟩
   ·rw [if_neg c6] at H
    exact absurd H (by simp)
  ·rw [if_neg c5] at H
   exact absurd H (by simp)
 ·replace c4:=Bool.eq_false_iff.mpr c4
  subst c4
  have H1 : (some (⟨#[]⟩ : ByteArray)) = some r:=by rw [if_neg (show ¬ (false = true) by decide)] at H;exact H
  clear H
  have H:=H1
  clear H1
  obtain rfl:=Option.some.inj H
  go_enter Tryd.func38,Tryd.ntmps38
  go_wp2_with (first|((with_reducible refine gate_callee (f:=71) rfl ?_);refine goesL_ (some 8) rfl rfl Tryd.func71 (by kernel_rfl) rfl #[.int .i64 a0] rfl (by (try simp only [List.map_toArray,List.map_cons,List.map_nil]);first|done|rfl|(simp only [List.length_drop,List.length_take];rfl)|(simp (disch:=first|omega|(simp at *;omega)) only [u64_id,i64_id,u8_id];rfl)) ?_;(with_reducible refine (pack_size.calls a0 false _ A3.out).mono ?_);rintro e w' ⟨rfl,⟨nd,rfl⟩⟩;refine ⟨_,rfl,?_⟩))
  go_ret
  exact ⟨by first|rfl|(simp [errW_none,errW_some] <;> rfl)|(simp [*,errW_none,errW_some] <;> rfl),by repeat (first|(with_reducible first|exact HB.out|apply below_alloc|apply pw_below_drewN|apply below_drew1)|exact HB.out)⟩

/-! ### pack_Text: function 39 -/
def pack_Text.f (k : Nat) (a0 : ByteArray) : Option (ByteArray × Int):=if (a0.size : Int) > 4096 then (some ((⟨#[]⟩ : ByteArray),2)) else ((pack_Put.f k 2 (IntKind.u64.wrap ((a0.size : Int)))).bind fun t130=>(if t130.size + a0.size ≤ 9223372036854775807 then (some (t130 ++ a0,0)) else (none)))
theorem pack_Text.mono : ∀ a0 k,LeO (pack_Text.f k a0) (pack_Text.f (k + 1) a0):=by
 intro a0 k
 unfold pack_Text.f
 repeat' first
   | (with_reducible exact pack_Put.mono _ _ _)
   | (with_reducible exact LeO.refl _)
   | (with_reducible exact LeO.none _)
   | (with_reducible refine LeO.ite ?_ ?_)
   | (with_reducible refine LeO.bind ?_ (fun _=>?_))
   | exact pack_Put.mono _ _ _
   | exact LeO.none _
   | refine LeO.ite ?_ ?_
   | refine LeO.bind ?_ (fun _=>?_)
set_option maxHeartbeats 8000000 in
set_option maxRecDepth 100000 in
theorem pack_Text.calls (k : Nat) (a0 : ByteArray) (r1 : ByteArray) (r2 : Int) (w : World) (h : pack_Text.f k a0 = some (r1,r2)) :
  Calls Tryd.prog 39 #[.string a0] w fun e w'=>e = .returned (.tuple #[.string r1,.int .i64 r2]) ∧ Below w.heap.size w w':=by
 have HB:=Aside0.mk (Below.refl w.heap.size w)
 have H : (if (a0.size : Int) > 4096 then (some ((⟨#[]⟩ : ByteArray),2)) else ((pack_Put.f k 2 (IntKind.u64.wrap ((a0.size : Int)))).bind fun t130=>(if t130.size + a0.size ≤ 9223372036854775807 then (some (t130 ++ a0,0)) else (none)))) = some (r1,r2):=h
 clear h
 by_cases c2 : (a0.size : Int) > 4096
 ·rw [if_pos c2] at H
  have c2b0 : decide (4096 < (a0.size : Int)) = true:=decide_eq_true c2
  have c2b1 : decide (4096 < a0.size) = true:=decide_eq_true (by omega)
  clear c2
  simp only [Option.some.injEq,Prod.mk.injEq] at H
  obtain ⟨rfl,rfl⟩:=H
  go_enter Tryd.func39,Tryd.ntmps39
  go_wp2
  go_ret2
  exact ⟨by first|rfl|(simp [errW_none,errW_some] <;> rfl)|(simp [*,errW_none,errW_some] <;> rfl),by repeat (first|(with_reducible first|exact HB.out|apply below_alloc|apply pw_below_drewN|apply below_drew1)|exact HB.out)⟩
 ·rw [if_neg c2] at H
  have c2b0 : decide (4096 < (a0.size : Int)) = false:=decide_eq_false c2
  have c2b1 : decide (4096 < a0.size) = false:=decide_eq_false (by omega)
  clear c2
  replace H:=Option.bind_eq_some_iff.mp H
  obtain ⟨t130,A30,H⟩:=H
  replace H : (if t130.size + a0.size ≤ 9223372036854775807 then (some (t130 ++ a0,0)) else (none)) = some (r1,r2):=H
  have A3:=Aside0.mk A30
  clear A30
  by_cases c4 : t130.size + a0.size ≤ 9223372036854775807
  ·rw [if_pos c4] at H
   have c4b0:=eq_true c4
   have c4b1 : decide (t130.size + a0.size ≤ 9223372036854775807) = true:=decide_eq_true c4
   try have c4b2 : (9223372036854775807 < t130.size + a0.size) = False:=eq_false (Nat.not_lt.2 c4)
   simp only [Option.some.injEq,Prod.mk.injEq] at H
   obtain ⟨rfl,rfl⟩:=H
   go_enter Tryd.func39,Tryd.ntmps39
   go_wp2_with (first|((with_reducible refine gate_callee (f:=38) rfl ?_);refine goesL_ (some 10) rfl rfl Tryd.func38 (by kernel_rfl) rfl #[.int .i64 2,.int .u64 (IntKind.u64.wrap ((a0.size : Int)))] rfl (by (try simp only [List.map_toArray,List.map_cons,List.map_nil]);first|done|rfl|(simp only [List.length_drop,List.length_take];rfl)|(simp (disch:=first|omega|(simp at *;omega)) only [u64_id,i64_id,u8_id];rfl)) ?_;(with_reducible refine (pack_Put.calls k 2 (IntKind.u64.wrap ((a0.size : Int))) t130 _ A3.out).mono ?_);rintro e w5 ⟨rfl,hb⟩;refine ⟨_,rfl,?_⟩;have n0_:=Aside0.mk (below_step (by repeat (first|(with_reducible first|exact HB.out|apply below_alloc|apply pw_below_drewN|apply below_drew1)|exact HB.out)) hb);clear HB;have HB:=n0_;clear n0_;(try clear hb);(try clear hb2);(try clear hk);(try clear hi)))
   go_ret2
   exact ⟨by first|rfl|(simp [errW_none,errW_some] <;> rfl)|(simp [*,errW_none,errW_some] <;> rfl),by repeat (first|(with_reducible first|exact HB.out|apply below_alloc|apply pw_below_drewN|apply below_drew1)|exact HB.out)⟩
  ·rw [if_neg c4] at H
   exact absurd H (by simp)

/-! ### bosunlaw02_Awake: function 33 -/
def bosunlaw02_Awake.f (k : Nat)  : Option (Bool):=(pack_Text.f k (⟨#[97]⟩ : ByteArray)).bind fun bt131=>((pack_Put.f k 2 258).bind fun t133=>(if t133.toList = ([1,2] : List UInt8) then (if bt131.1.toList = ([0,1,97] : List UInt8) then (some (bt131.2 == 0)) else (some false)) else (some false)))
theorem bosunlaw02_Awake.mono : ∀ k,LeO (bosunlaw02_Awake.f k ) (bosunlaw02_Awake.f (k + 1) ):=by
 intro  k
 unfold bosunlaw02_Awake.f
 repeat' first
   | (with_reducible exact pack_Put.mono _ _ _)
   | (with_reducible exact pack_Text.mono _ _)
   | (with_reducible exact LeO.refl _)
   | (with_reducible exact LeO.none _)
   | (with_reducible refine LeO.ite ?_ ?_)
   | (with_reducible refine LeO.bind ?_ (fun _=>?_))
   | exact pack_Put.mono _ _ _
   | exact pack_Text.mono _ _
   | exact LeO.none _
   | refine LeO.ite ?_ ?_
   | refine LeO.bind ?_ (fun _=>?_)
set_option maxHeartbeats 8000000 in
set_option maxRecDepth 100000 in
theorem bosunlaw02_Awake.calls (k : Nat)  (r : Bool) (w : World) (h : bosunlaw02_Awake.f k  = some r) :
  Calls Tryd.prog 33 #[] w fun e w'=>e = .returned (.bool r) ∧ Below w.heap.size w w':=by
 have HB:=Aside0.mk (Below.refl w.heap.size w)
 have H : ((pack_Text.f k (⟨#[97]⟩ : ByteArray)).bind fun bt131=>((pack_Put.f k 2 258).bind fun t133=>(if t133.toList = ([1,2] : List UInt8) then (if bt131.1.toList = ([0,1,97] : List UInt8) then (some (bt131.2 == 0)) else (some false)) else (some false)))) = some r:=h
 clear h
 replace H:=Option.bind_eq_some_iff.mp H
 obtain ⟨⟨t131,t132⟩,A10,H⟩:=H
 replace H : ((pack_Put.f k 2 258).bind fun t133=>(if t133.toList = ([1,2] : List UInt8) then (if t131.toList = ([0,1,97] : List UInt8) then (some (t132 == 0)) else (some false)) else (some false))) = some r:=H
 have A1:=Aside0.mk A10
 clear A10
 replace H:=Option.bind_eq_some_iff.mp H
 obtain ⟨t133,A20,H⟩:=H
 replace H : (if t133.toList = ([1,2] : List UInt8) then (if t131.toList = ([0,1,97] : List UInt8) then (some (t132 == 0)) else (some false)) else (some false)) = some r:=H
 have A2:=Aside0.mk A20
 clear A20
 by_cases c3 : t133.toList = ([1,2] : List UInt8)
 ·rw [if_pos c3] at H
  have c3b0 : (t133.toList == ([1,2] : List UInt8)) = true:=beq_iff_eq.mpr c3
  have c3b1 : (t133.toList != ([1,2] : List UInt8)) = false:=bne_eq_false_iff_eq.mpr c3
  clear c3
  by_cases c4 : t131.toList = ([0,1,97] : List UInt8)
  ·rw [if_pos c4] at H
   have c4b0 : (t131.toList == ([0,1,97] : List UInt8)) = true:=beq_iff_eq.mpr c4
   have c4b1 : (t131.toList != ([0,1,97] : List UInt8)) = false:=bne_eq_false_iff_eq.mpr c4
   clear c4
   obtain rfl:=Option.some.inj H
   go_enter Tryd.func33,Tryd.ntmps33
   go_wp2_with (first|((with_reducible refine gate_callee (f:=39) rfl ?_);refine goesL_ (some 4) rfl rfl Tryd.func39 (by kernel_rfl) rfl #[.string (⟨#[97]⟩ : ByteArray)] rfl (by (try simp only [List.map_toArray,List.map_cons,List.map_nil]);first|done|rfl|(simp only [List.length_drop,List.length_take];rfl)|(simp (disch:=first|omega|(simp at *;omega)) only [u64_id,i64_id,u8_id];rfl)) ?_;(with_reducible refine (pack_Text.calls k (⟨#[97]⟩ : ByteArray) t131 t132 _ A1.out).mono ?_);rintro e w5 ⟨rfl,hb⟩;refine ⟨_,rfl,?_⟩;have n0_:=Aside0.mk (below_step (by repeat (first|(with_reducible first|exact HB.out|apply below_alloc|apply pw_below_drewN|apply below_drew1)|exact HB.out)) hb);clear HB;have HB:=n0_;clear n0_;(try clear hb);(try clear hb2);(try clear hk);(try clear hi))|((with_reducible refine gate_callee (f:=38) rfl ?_);refine goesL_ (some 7) rfl rfl Tryd.func38 (by kernel_rfl) rfl #[.int .i64 2,.int .u64 258] rfl (by (try simp only [List.map_toArray,List.map_cons,List.map_nil]);first|done|rfl|(simp only [List.length_drop,List.length_take];rfl)|(simp (disch:=first|omega|(simp at *;omega)) only [u64_id,i64_id,u8_id];rfl)) ?_;(with_reducible refine (pack_Put.calls k 2 258 t133 _ A2.out).mono ?_);rintro e w6 ⟨rfl,hb⟩;refine ⟨_,rfl,?_⟩;have n0_:=Aside0.mk (below_step (by repeat (first|(with_reducible first|exact HB.out|apply below_alloc|apply pw_below_drewN|apply below_drew1)|exact HB.out)) hb);clear HB;have HB:=n0_;clear n0_;(try clear hb);(try clear hb2);(try clear hk);(try clear hi)))
   go_ret
   exact ⟨by first|rfl|(simp [errW_none,errW_some] <;> rfl)|(simp [*,errW_none,errW_some] <;> rfl),by repeat (first|(with_reducible first|exact HB.out|apply below_alloc|apply pw_below_drewN|apply below_drew1)|exact HB.out)⟩
  ·rw [if_neg c4] at H
   have c4b0 : (t131.toList == ([0,1,97] : List UInt8)) = false:=beq_eq_false_iff_ne.mpr c4
   have c4b1 : (t131.toList != ([0,1,97] : List UInt8)) = true:=bne_iff_ne.mpr c4
   obtain rfl:=Option.some.inj H
   go_enter Tryd.func33,Tryd.ntmps33
   go_wp2_with (first|((with_reducible refine gate_callee (f:=39) rfl ?_);refine goesL_ (some 4) rfl rfl Tryd.func39 (by kernel_rfl) rfl #[.string (⟨#[97]⟩ : ByteArray)] rfl (by (try simp only [List.map_toArray,List.map_cons,List.map_nil]);first|done|rfl|(simp only [List.length_drop,List.length_take];rfl)|(simp (disch:=first|omega|(simp at *;omega)) only [u64_id,i64_id,u8_id];rfl)) ?_;(with_reducible refine (pack_Text.calls k (⟨#[97]⟩ : ByteArray) t131 t132 _ A1.out).mono ?_);rintro e w7 ⟨rfl,hb⟩;refine ⟨_,rfl,?_⟩;have n0_:=Aside0.mk (below_step (by repeat (first|(with_reducible first|exact HB.out|apply below_alloc|apply pw_below_drewN|apply below_drew1)|exact HB.out)) hb);clear HB;have HB:=n0_;clear n0_;(try clear hb);(try clear hb2);(try clear hk);(try clear hi))|((with_reducible refine gate_callee (f:=38) rfl ?_);refine goesL_ (some 7) rfl rfl Tryd.func38 (by kernel_rfl) rfl #[.int .i64 2,.int .u64 258] rfl (by (try simp only [List.map_toArray,List.map_cons,List.map_nil]);first|done|rfl|(simp only [List.length_drop,List.length_take];rfl)|(simp (disch:=first|omega|(simp at *;omega)) only [u64_id,i64_id,u8_id];rfl)) ?_;(with_reducible refine (pack_Put.calls k 2 258 t133 _ A2.out).mono ?_);rintro e w8 ⟨rfl,hb⟩;refine ⟨_,rfl,?_⟩;have n0_:=Aside0.mk (below_step (by repeat (first|(with_reducible first|exact HB.out|apply below_alloc|apply pw_below_drewN|apply below_drew1)|exact HB.out)) hb);clear HB;have HB:=n0_;clear n0_;(try clear hb);(try clear hb2);(try clear hk);(try clear hi)))
   go_ret
   exact ⟨by first|rfl|(simp [errW_none,errW_some] <;> rfl)|(simp [*,errW_none,errW_some] <;> rfl),by repeat (first|(with_reducible first|exact HB.out|apply below_alloc|apply pw_below_drewN|apply below_drew1)|exact HB.out)⟩
 ·rw [if_neg c3] at H
  have c3b0 : (t133.toList == ([1,2] : List UInt8)) = false:=beq_eq_false_iff_ne.mpr c3
  have c3b1 : (t133.toList != ([1,2] : List UInt8)) = true:=bne_iff_ne.mpr c3
  obtain rfl:=Option.some.inj H
  go_enter Tryd.func33,Tryd.ntmps33
  go_wp2_with (first|((with_reducible refine gate_callee (f:=39) rfl ?_);refine goesL_ (some 4) rfl rfl Tryd.func39 (by kernel_rfl) rfl #[.string (⟨#[97]⟩ : ByteArray)] rfl (by (try simp only [List.map_toArray,List.map_cons,List.map_nil]);first|done|rfl|(simp only [List.length_drop,List.length_take];rfl)|(simp (disch:=first|omega|(simp at *;omega)) only [u64_id,i64_id,u8_id];rfl)) ?_;(with_reducible refine (pack_Text.calls k (⟨#[97]⟩ : ByteArray) t131 t132 _ A1.out).mono ?_);rintro e w9 ⟨rfl,hb⟩;refine ⟨_,rfl,?_⟩;have n0_:=Aside0.mk (below_step (by repeat (first|(with_reducible first|exact HB.out|apply below_alloc|apply pw_below_drewN|apply below_drew1)|exact HB.out)) hb);clear HB;have HB:=n0_;clear n0_;(try clear hb);(try clear hb2);(try clear hk);(try clear hi))|((with_reducible refine gate_callee (f:=38) rfl ?_);refine goesL_ (some 7) rfl rfl Tryd.func38 (by kernel_rfl) rfl #[.int .i64 2,.int .u64 258] rfl (by (try simp only [List.map_toArray,List.map_cons,List.map_nil]);first|done|rfl|(simp only [List.length_drop,List.length_take];rfl)|(simp (disch:=first|omega|(simp at *;omega)) only [u64_id,i64_id,u8_id];rfl)) ?_;(with_reducible refine (pack_Put.calls k 2 258 t133 _ A2.out).mono ?_);rintro e w10 ⟨rfl,hb⟩;refine ⟨_,rfl,?_⟩;have n0_:=Aside0.mk (below_step (by repeat (first|(with_reducible first|exact HB.out|apply below_alloc|apply pw_below_drewN|apply below_drew1)|exact HB.out)) hb);clear HB;have HB:=n0_;clear n0_;(try clear hb);(try clear hb2);(try clear hk);(try clear hi)))
  go_ret
  exact ⟨by first|rfl|(simp [errW_none,errW_some] <;> rfl)|(simp [*,errW_none,errW_some] <;> rfl),by repeat (first|(with_reducible first|exact HB.out|apply below_alloc|apply pw_below_drewN|apply below_drew1)|exact HB.out)⟩

/-! ### dns_Variable: function 63 -/
mutual
def dns_Variable.j0 : Nat → ByteArray → Bool → Option (Bool)
 | 0,_,_=>none
 | k + 1,x0,x15=>if x15 = true then (some false) else (dns_Variable.l0 k x0 (x0.size : Int) 0)
def dns_Variable.l0 : Nat → ByteArray → Int → Int → Option (Bool)
 | 0,_,_,_=>none
 | k + 1,x0,x17,x18=>if x18 < x17 then (if 0 ≤ x18 then (if x18 < (x0.size : Int) then ((dns_small.f (bt x0 x18)).bind fun t135=>(if t135 = true then (dns_Variable.l0 k x0 x17 (wrap64 (x18 + 1))) else ((dns_great.f (bt x0 x18)).bind fun t136=>(if t136 = true then (dns_Variable.l0 k x0 x17 (wrap64 (x18 + 1))) else ((dns_digit.f (bt x0 x18)).bind fun t137=>(if t137 = true then (dns_Variable.l0 k x0 x17 (wrap64 (x18 + 1))) else (if (bt x0 x18) = 95 then (dns_Variable.l0 k x0 x17 (wrap64 (x18 + 1))) else (some false)))))))) else (none)) else (none)) else (some true)
end
def dns_Variable.f (k : Nat) (a0 : ByteArray) : Option (Bool):=if a0.toList = ([] : List UInt8) then (dns_Variable.j0 k a0 true) else (if (a0.size : Int) > 63 then (dns_Variable.j0 k a0 true) else (if 0 < (a0.size : Int) then ((dns_digit.f (bt a0 0)).bind fun t134=>(dns_Variable.j0 k a0 t134)) else (none)))
theorem dns_Variable.mono_l : ∀ k,(∀ y0 y1,LeO (dns_Variable.j0 k y0 y1) (dns_Variable.j0 (k + 1) y0 y1)) ∧ (∀ y0 y1 y2,LeO (dns_Variable.l0 k y0 y1 y2) (dns_Variable.l0 (k + 1) y0 y1 y2))
 | 0=>⟨fun _ _ r h=>by simp [dns_Variable.j0] at h,fun _ _ _ r h=>by simp [dns_Variable.l0] at h⟩
 | k + 1=>by
  obtain ⟨ih0,ih1⟩:=dns_Variable.mono_l k
  refine ⟨?_,?_⟩
  ·intro y0 y1
   unfold dns_Variable.j0
   repeat' first
   | (with_reducible exact ih0 _ _)
   | (with_reducible exact ih1 _ _ _)
   | (with_reducible exact LeO.refl _)
   | (with_reducible exact LeO.none _)
   | (with_reducible refine LeO.ite ?_ ?_)
   | (with_reducible refine LeO.bind ?_ (fun _=>?_))
   | exact ih0 _ _
   | exact ih1 _ _ _
   | exact LeO.none _
   | refine LeO.ite ?_ ?_
   | refine LeO.bind ?_ (fun _=>?_)
  ·intro y0 y1 y2
   unfold dns_Variable.l0
   repeat' first
   | (with_reducible exact ih0 _ _)
   | (with_reducible exact ih1 _ _ _)
   | (with_reducible exact LeO.refl _)
   | (with_reducible exact LeO.none _)
   | (with_reducible refine LeO.ite ?_ ?_)
   | (with_reducible refine LeO.bind ?_ (fun _=>?_))
   | exact ih0 _ _
   | exact ih1 _ _ _
   | exact LeO.none _
   | refine LeO.ite ?_ ?_
   | refine LeO.bind ?_ (fun _=>?_)
theorem dns_Variable.mono : ∀ a0 k,LeO (dns_Variable.f k a0) (dns_Variable.f (k + 1) a0):=by
 intro a0 k
 obtain ⟨ih0,ih1⟩:=dns_Variable.mono_l k
 unfold dns_Variable.f
 repeat' first
   | (with_reducible exact ih0 _ _)
   | (with_reducible exact ih1 _ _ _)
   | (with_reducible exact LeO.refl _)
   | (with_reducible exact LeO.none _)
   | (with_reducible refine LeO.ite ?_ ?_)
   | (with_reducible refine LeO.bind ?_ (fun _=>?_))
   | exact ih0 _ _
   | exact ih1 _ _ _
   | exact LeO.none _
   | refine LeO.ite ?_ ?_
   | refine LeO.bind ?_ (fun _=>?_)
set_option maxHeartbeats 8000000 in
set_option maxRecDepth 100000 in
theorem dns_Variable.calls (k : Nat) (a0 : ByteArray) (r : Bool) (w : World) (h : dns_Variable.f k a0 = some r) :
  Calls Tryd.prog 63 #[.string a0] w fun e w'=>e = .returned (.bool r) ∧ Drawn0 w w':=by
 have H : (if a0.toList = ([] : List UInt8) then (dns_Variable.j0 k a0 true) else (if (a0.size : Int) > 63 then (dns_Variable.j0 k a0 true) else (if 0 < (a0.size : Int) then ((dns_digit.f (bt a0 0)).bind fun t134=>(dns_Variable.j0 k a0 t134)) else (none)))) = some r:=h
 clear h
 have HC2:=Aside0.mk H
 clear H
 go_enter Tryd.func63,Tryd.ntmps63
 go_upto_region 1 with (fail)
 go_cut [15] (fun v15 wc=>∃ (kq : Nat) (x15_1 : Bool),v15 = .bool x15_1 ∧ Aside0 (dns_Variable.j0 kq a0 x15_1 = some r) ∧ Aside0 (kq ≤ k) ∧ Drawn0 w wc)
 case first =>
  have H:=HC2.out
  clear HC2
  by_cases c3 : a0.toList = ([] : List UInt8)
  ·rw [if_pos c3] at H
   have c3b0 : (a0.toList == ([] : List UInt8)) = true:=beq_iff_eq.mpr c3
   have c3b1 : (a0.toList != ([] : List UInt8)) = false:=bne_eq_false_iff_eq.mpr c3
   clear c3
   (first|rw [c3b0]|(simp only [i64_w,i32_w];rw [c3b0])|skip)
   have H':=Aside0.mk H
   clear H
   go_wp2
   go_meet
   case rel=>exact ⟨_,(true),(by first|rfl|(simp;done)|(simp [*];done)),H',⟨by first|omega|exact Nat.le_refl _⟩,by repeat (first|exact Drawn0.refl _|apply Drawn0.step)⟩
  ·rw [if_neg c3] at H
   have c3b0 : (a0.toList == ([] : List UInt8)) = false:=beq_eq_false_iff_ne.mpr c3
   have c3b1 : (a0.toList != ([] : List UInt8)) = true:=bne_iff_ne.mpr c3
   (first|rw [c3b0]|(simp only [i64_w,i32_w];rw [c3b0])|skip)
   by_cases c4 : (a0.size : Int) > 63
   ·rw [if_pos c4] at H
    have c4b0 : decide (63 < (a0.size : Int)) = true:=decide_eq_true c4
    have c4b1 : decide (63 < a0.size) = true:=decide_eq_true (by omega)
    clear c4
    have H':=Aside0.mk H
    clear H
    go_wp2
    go_meet
    case rel=>exact ⟨_,(true),(by first|rfl|(simp;done)|(simp [*];done)),H',⟨by first|omega|exact Nat.le_refl _⟩,by repeat (first|exact Drawn0.refl _|apply Drawn0.step)⟩
   ·rw [if_neg c4] at H
    have c4b0 : decide (63 < (a0.size : Int)) = false:=decide_eq_false c4
    have c4b1 : decide (63 < a0.size) = false:=decide_eq_false (by omega)
    clear c4
    by_cases c5 : 0 < (a0.size : Int)
    ·rw [if_pos c5] at H
     have c5b0 : decide (0 < (a0.size : Int)) = true:=decide_eq_true c5
     have c5b1 : decide (0 < a0.size) = true:=decide_eq_true (by omega)
     clear c5
     replace H:=Option.bind_eq_some_iff.mp H
     obtain ⟨t134,A70,H⟩:=H
     replace H : (dns_Variable.j0 k a0 t134) = some r:=H
     have A7:=Aside0.mk A70
     clear A70
     have H':=Aside0.mk H
     clear H
     have p6 : 0 ≤ (0 : Int):=(by omega)
     have q6 : 0 < a0.size:=(by have : (0 : Int) < (a0.size : Int):=of_decide_eq_true (by first|(with_reducible assumption)|assumption);omega)
     have hx6 : ∀ h : 0 < a0.size,((a0[0]'h).toNat : Int) = bt a0 0:=bt_at a0 0
     clear p6
     have qi6 : (0 < (a0.size : Int)) = True:=eq_true (of_decide_eq_true (by first|(with_reducible assumption)|assumption))
     replace q6:=eq_true q6
     go_wp2_with (first|(go_at_call 74;(with_reducible refine (dns_digit.calls (bt a0 0) t134 _ A7.out).mono ?_);rintro e w' ⟨rfl,⟨nd,rfl⟩⟩))
     go_meet
     case rel=>exact ⟨_,(t134),(by first|rfl|(simp;done)|(simp [*];done)),H',⟨by first|omega|exact Nat.le_refl _⟩,by repeat (first|exact Drawn0.refl _|apply Drawn0.step)⟩
    ·rw [if_neg c5] at H
     exact absurd H (by simp)
 case rest =>
  clear HC2
  try clear p2
  try clear c3
  try clear c3b0
  try clear c3b1
  try clear c4
  try clear c4b0
  try clear c4b1
  try clear c5
  try clear c5b0
  try clear c5b1
  try clear c6
  try clear p6
  try clear q6
  try clear hx6
  try clear qi6
  try clear p6
  try clear q6
  obtain ⟨kq,x15_1,rfl,HA,HJ1,⟨mc1,rfl⟩⟩:=hcut
  cases kq with
  | zero=>exact absurd HA.out (by simp [dns_Variable.j0])
  | succ kj1 =>
   have H:=HA.out
   clear HA
   simp only [dns_Variable.j0] at H
   by_cases c8 : x15_1 = true
   ·subst c8
    have H1 : (some false) = some r:=by rw [if_pos rfl] at H;exact H
    clear H
    have H:=H1
    clear H1
    obtain rfl:=Option.some.inj H
    go_wp2
    go_ret
    exact ⟨by first|rfl|(simp;done)|(simp [*];done),by repeat (first|exact Drawn0.refl _|apply Drawn0.step)⟩
   ·replace c8:=Bool.eq_false_iff.mpr c8
    subst c8
    have H1 : (dns_Variable.l0 kj1 a0 (a0.size : Int) 0) = some r:=by rw [if_neg (show ¬ (false = true) by decide)] at H;exact H
    clear H
    have H:=H1
    clear H1
    have H':=Aside0.mk H
    clear H
    go_wp2
    go_loopg [18] kj1 (fun kq v18 w'=>∃ (x18_2 : Int),v18 = .int .i64 x18_2 ∧ Aside0 (dns_Variable.l0 kq a0 (a0.size : Int) x18_2 = some r) ∧ Aside0 (kq ≤ kj1) ∧ Drawn0 w w')
    case atStart=>exact ⟨(0),(by first|rfl|(simp;done)|(simp [*];done)),H',⟨Nat.le_refl _⟩,by repeat (first|exact Drawn0.refl _|apply Drawn0.step)⟩
    case round =>
     clear H'
     try clear c1
     try clear p2
     try clear c3
     try clear c3b0
     try clear c3b1
     try clear c4
     try clear c4b0
     try clear c4b1
     try clear c5
     try clear c5b0
     try clear c5b1
     try clear c6
     try clear p6
     try clear q6
     try clear hx6
     try clear qi6
     try clear c8
     try clear p2
     try clear p6
     try clear q6
     obtain ⟨x18_2,rfl,HA,HK2,⟨m2,rfl⟩⟩:=hrel
     cases gk with
     | zero=>exact absurd HA.out (by simp [dns_Variable.l0])
     | succ k2 =>
      have H:=HA.out
      clear HA
      simp only [dns_Variable.l0] at H
      by_cases c9 : x18_2 < (a0.size : Int)
      ·rw [if_pos c9] at H
       have c9b0 : decide (x18_2 < (a0.size : Int)) = true:=decide_eq_true c9
       clear c9
       by_cases c10 : 0 ≤ x18_2
       ·rw [if_pos c10] at H
        have c10b0 : decide (0 ≤ x18_2) = true:=decide_eq_true c10
        clear c10
        by_cases c11 : x18_2 < (a0.size : Int)
        ·rw [if_pos c11] at H
         have c11b0 : decide (x18_2 < (a0.size : Int)) = true:=decide_eq_true c11
         clear c11
         replace H:=Option.bind_eq_some_iff.mp H
         obtain ⟨t135,A130,H⟩:=H
         replace H : (if t135 = true then (dns_Variable.l0 k2 a0 (a0.size : Int) (wrap64 (x18_2 + 1))) else ((dns_great.f (bt a0 x18_2)).bind fun t136=>(if t136 = true then (dns_Variable.l0 k2 a0 (a0.size : Int) (wrap64 (x18_2 + 1))) else ((dns_digit.f (bt a0 x18_2)).bind fun t137=>(if t137 = true then (dns_Variable.l0 k2 a0 (a0.size : Int) (wrap64 (x18_2 + 1))) else (if (bt a0 x18_2) = 95 then (dns_Variable.l0 k2 a0 (a0.size : Int) (wrap64 (x18_2 + 1))) else (some false))))))) = some r:=H
         have A13:=Aside0.mk A130
         clear A130
         by_cases c14 : t135 = true
         ·subst c14
          have H1 : (dns_Variable.l0 k2 a0 (a0.size : Int) (wrap64 (x18_2 + 1))) = some r:=by rw [if_pos rfl] at H;exact H
          clear H
          have H:=H1
          clear H1
          have H':=Aside0.mk H
          clear H
          have p12 : 0 ≤ (x18_2 : Int):=of_decide_eq_true (by first|(with_reducible assumption)|assumption)
          have q12 : x18_2 < (a0.size : Int):=of_decide_eq_true (by first|(with_reducible assumption)|assumption)
          have hx12:=bt_at a0 x18_2
          replace p12:=eq_true p12
          replace q12:=eq_true q12
          go_wp2_with (first|((with_reducible refine gate_callee (f:=73) rfl ?_);refine goesL_ (some 24) rfl rfl Tryd.func73 (by kernel_rfl) rfl #[.int .u8 (bt a0 x18_2)] rfl (by (try simp only [List.map_toArray,List.map_cons,List.map_nil]);first|done|rfl|(simp only [List.length_drop,List.length_take];rfl)|(simp (disch:=first|omega|(simp at *;omega)) only [u64_id,i64_id,u8_id];rfl)) ?_;(with_reducible refine (dns_small.calls (bt a0 x18_2) true _ A13.out).mono ?_);rintro e w' ⟨rfl,⟨nd,rfl⟩⟩;refine ⟨_,rfl,?_⟩))
          go_roundg k2
          case measure=>have:=HJ1.out;have:=HK2.out;omega
          case rel=>exact ⟨(wrap64 (x18_2 + 1)),(by first|rfl|(simp;done)|(simp [*];done)),H',⟨by have:=HJ1.out;have:=HK2.out;omega⟩,by repeat (first|exact Drawn0.refl _|apply Drawn0.step)⟩
         ·replace c14:=Bool.eq_false_iff.mpr c14
          subst c14
          have H1 : ((dns_great.f (bt a0 x18_2)).bind fun t136=>(if t136 = true then (dns_Variable.l0 k2 a0 (a0.size : Int) (wrap64 (x18_2 + 1))) else ((dns_digit.f (bt a0 x18_2)).bind fun t137=>(if t137 = true then (dns_Variable.l0 k2 a0 (a0.size : Int) (wrap64 (x18_2 + 1))) else (if (bt a0 x18_2) = 95 then (dns_Variable.l0 k2 a0 (a0.size : Int) (wrap64 (x18_2 + 1))) else (some false)))))) = some r:=by rw [if_neg (show ¬ (false = true) by decide)] at H;exact H
          clear H
          have H:=H1
          clear H1
          replace H:=Option.bind_eq_some_iff.mp H
          obtain ⟨t136,A160,H⟩:=H
          replace H : (if t136 = true then (dns_Variable.l0 k2 a0 (a0.size : Int) (wrap64 (x18_2 + 1))) else ((dns_digit.f (bt a0 x18_2)).bind fun t137=>(if t137 = true then (dns_Variable.l0 k2 a0 (a0.size : Int) (wrap64 (x18_2 + 1))) else (if (bt a0 x18_2) = 95 then (dns_Variable.l0 k2 a0 (a0.size : Int) (wrap64 (x18_2 + 1))) else (some false))))) = some r:=H
          have A16:=Aside0.mk A160
          clear A160
          by_cases c17 : t136 = true
          ·subst c17
           have H1 : (dns_Variable.l0 k2 a0 (a0.size : Int) (wrap64 (x18_2 + 1))) = some r:=by rw [if_pos rfl] at H;exact H
           clear H
           have H:=H1
           clear H1
           have H':=Aside0.mk H
           clear H
           have p12 : 0 ≤ (x18_2 : Int):=of_decide_eq_true (by first|(with_reducible assumption)|assumption)
           have q12 : x18_2 < (a0.size : Int):=of_decide_eq_true (by first|(with_reducible assumption)|assumption)
           have hx12:=bt_at a0 x18_2
           replace p12:=eq_true p12
           replace q12:=eq_true q12
           go_wp2_with (first|((with_reducible refine gate_callee (f:=73) rfl ?_);refine goesL_ (some 24) rfl rfl Tryd.func73 (by kernel_rfl) rfl #[.int .u8 (bt a0 x18_2)] rfl (by (try simp only [List.map_toArray,List.map_cons,List.map_nil]);first|done|rfl|(simp only [List.length_drop,List.length_take];rfl)|(simp (disch:=first|omega|(simp at *;omega)) only [u64_id,i64_id,u8_id];rfl)) ?_;(with_reducible refine (dns_small.calls (bt a0 x18_2) false _ A13.out).mono ?_);rintro e w' ⟨rfl,⟨nd,rfl⟩⟩;refine ⟨_,rfl,?_⟩;have p15 : 0 ≤ (x18_2 : Int):=of_decide_eq_true (by first|(with_reducible assumption)|assumption);have q15 : x18_2 < (a0.size : Int):=of_decide_eq_true (by first|(with_reducible assumption)|assumption);have hx15:=bt_at a0 x18_2;replace p15:=eq_true p15;replace q15:=eq_true q15)|(go_at_call 75;(with_reducible refine (dns_great.calls (bt a0 x18_2) true _ A16.out).mono ?_);rintro e w' ⟨rfl,⟨nd,rfl⟩⟩))
           go_roundg k2
           case measure=>have:=HJ1.out;have:=HK2.out;omega
           case rel=>exact ⟨(wrap64 (x18_2 + 1)),(by first|rfl|(simp;done)|(simp [*];done)),H',⟨by have:=HJ1.out;have:=HK2.out;omega⟩,by repeat (first|exact Drawn0.refl _|apply Drawn0.step)⟩
          ·replace c17:=Bool.eq_false_iff.mpr c17
           subst c17
           have H1 : ((dns_digit.f (bt a0 x18_2)).bind fun t137=>(if t137 = true then (dns_Variable.l0 k2 a0 (a0.size : Int) (wrap64 (x18_2 + 1))) else (if (bt a0 x18_2) = 95 then (dns_Variable.l0 k2 a0 (a0.size : Int) (wrap64 (x18_2 + 1))) else (some false)))) = some r:=by rw [if_neg (show ¬ (false = true) by decide)] at H;exact H
           clear H
           have H:=H1
           clear H1
           replace H:=Option.bind_eq_some_iff.mp H
           obtain ⟨t137,A190,H⟩:=H
           replace H : (if t137 = true then (dns_Variable.l0 k2 a0 (a0.size : Int) (wrap64 (x18_2 + 1))) else (if (bt a0 x18_2) = 95 then (dns_Variable.l0 k2 a0 (a0.size : Int) (wrap64 (x18_2 + 1))) else (some false))) = some r:=H
           have A19:=Aside0.mk A190
           clear A190
           by_cases c20 : t137 = true
           ·subst c20
            have H1 : (dns_Variable.l0 k2 a0 (a0.size : Int) (wrap64 (x18_2 + 1))) = some r:=by rw [if_pos rfl] at H;exact H
            clear H
            have H:=H1
            clear H1
            have H':=Aside0.mk H
            clear H
            have p12 : 0 ≤ (x18_2 : Int):=of_decide_eq_true (by first|(with_reducible assumption)|assumption)
            have q12 : x18_2 < (a0.size : Int):=of_decide_eq_true (by first|(with_reducible assumption)|assumption)
            have hx12:=bt_at a0 x18_2
            replace p12:=eq_true p12
            replace q12:=eq_true q12
            go_wp2_with (first|((with_reducible refine gate_callee (f:=73) rfl ?_);refine goesL_ (some 24) rfl rfl Tryd.func73 (by kernel_rfl) rfl #[.int .u8 (bt a0 x18_2)] rfl (by (try simp only [List.map_toArray,List.map_cons,List.map_nil]);first|done|rfl|(simp only [List.length_drop,List.length_take];rfl)|(simp (disch:=first|omega|(simp at *;omega)) only [u64_id,i64_id,u8_id];rfl)) ?_;(with_reducible refine (dns_small.calls (bt a0 x18_2) false _ A13.out).mono ?_);rintro e w' ⟨rfl,⟨nd,rfl⟩⟩;refine ⟨_,rfl,?_⟩;have p15 : 0 ≤ (x18_2 : Int):=of_decide_eq_true (by first|(with_reducible assumption)|assumption);have q15 : x18_2 < (a0.size : Int):=of_decide_eq_true (by first|(with_reducible assumption)|assumption);have hx15:=bt_at a0 x18_2;replace p15:=eq_true p15;replace q15:=eq_true q15)|(go_at_call 75;(with_reducible refine (dns_great.calls (bt a0 x18_2) false _ A16.out).mono ?_);rintro e w' ⟨rfl,⟨nd,rfl⟩⟩;have p18 : 0 ≤ (x18_2 : Int):=of_decide_eq_true (by first|(with_reducible assumption)|assumption);have q18 : x18_2 < (a0.size : Int):=of_decide_eq_true (by first|(with_reducible assumption)|assumption);have hx18:=bt_at a0 x18_2;replace p18:=eq_true p18;replace q18:=eq_true q18)|(go_at_call 74;(with_reducible refine (dns_digit.calls (bt a0 x18_2) true _ A19.out).mono ?_);rintro e w' ⟨rfl,⟨nd,rfl⟩⟩))
            go_roundg k2
            case measure=>have:=HJ1.out;have:=HK2.out;omega
            case rel=>exact ⟨(wrap64 (x18_2 + 1)),(by first|rfl|(simp;done)|(simp [*];done)),H',⟨by have:=HJ1.out;have:=HK2.out;omega⟩,by repeat (first|exact Drawn0.refl _|apply Drawn0.step)⟩
           ·replace c20:=Bool.eq_false_iff.mpr c20
            subst c20
            have H1 : (if (bt a0 x18_2) = 95 then (dns_Variable.l0 k2 a0 (a0.size : Int) (wrap64 (x18_2 + 1))) else (some false)) = some r:=by rw [if_neg (show ¬ (false = true) by decide)] at H;exact H
            clear H
            have H:=H1
            clear H1
            by_cases c22 : (bt a0 x18_2) = 95
            ·rw [if_pos c22] at H
             have c22b0 : ((bt a0 x18_2) == 95) = true:=beq_iff_eq.mpr c22
             have c22b1 : ((bt a0 x18_2) != 95) = false:=bne_eq_false_iff_eq.mpr c22
             clear c22
             have H':=Aside0.mk H
             clear H
             have p12 : 0 ≤ (x18_2 : Int):=of_decide_eq_true (by first|(with_reducible assumption)|assumption)
             have q12 : x18_2 < (a0.size : Int):=of_decide_eq_true (by first|(with_reducible assumption)|assumption)
             have hx12:=bt_at a0 x18_2
             replace p12:=eq_true p12
             replace q12:=eq_true q12
             go_wp2_with (first|((with_reducible refine gate_callee (f:=73) rfl ?_);refine goesL_ (some 24) rfl rfl Tryd.func73 (by kernel_rfl) rfl #[.int .u8 (bt a0 x18_2)] rfl (by (try simp only [List.map_toArray,List.map_cons,List.map_nil]);first|done|rfl|(simp only [List.length_drop,List.length_take];rfl)|(simp (disch:=first|omega|(simp at *;omega)) only [u64_id,i64_id,u8_id];rfl)) ?_;(with_reducible refine (dns_small.calls (bt a0 x18_2) false _ A13.out).mono ?_);rintro e w' ⟨rfl,⟨nd,rfl⟩⟩;refine ⟨_,rfl,?_⟩;have p15 : 0 ≤ (x18_2 : Int):=of_decide_eq_true (by first|(with_reducible assumption)|assumption);have q15 : x18_2 < (a0.size : Int):=of_decide_eq_true (by first|(with_reducible assumption)|assumption);have hx15:=bt_at a0 x18_2;replace p15:=eq_true p15;replace q15:=eq_true q15)|(go_at_call 75;(with_reducible refine (dns_great.calls (bt a0 x18_2) false _ A16.out).mono ?_);rintro e w' ⟨rfl,⟨nd,rfl⟩⟩;have p18 : 0 ≤ (x18_2 : Int):=of_decide_eq_true (by first|(with_reducible assumption)|assumption);have q18 : x18_2 < (a0.size : Int):=of_decide_eq_true (by first|(with_reducible assumption)|assumption);have hx18:=bt_at a0 x18_2;replace p18:=eq_true p18;replace q18:=eq_true q18)|(go_at_call 74;(with_reducible refine (dns_digit.calls (bt a0 x18_2) false _ A19.out).mono ?_);rintro e w' ⟨rfl,⟨nd,rfl⟩⟩;have p21 : 0 ≤ (x18_2 : Int):=of_decide_eq_true (by first|(with_reducible assumption)|assumption);have q21 : x18_2 < (a0.size : Int):=of_decide_eq_true (by first|(with_reducible assumption)|assumption);have hx21:=bt_at a0 x18_2;replace p21:=eq_true p21;replace q21:=eq_true q21))
             go_roundg k2
             case measure=>have:=HJ1.out;have:=HK2.out;omega
             case rel=>exact ⟨(wrap64 (x18_2 + 1)),(by first|rfl|(simp;done)|(simp [*];done)),H',⟨by have:=HJ1.out;have:=HK2.out;omega⟩,by repeat (first|exact Drawn0.refl _|apply Drawn0.step)⟩
            ·rw [if_neg c22] at H
             have c22b0 : ((bt a0 x18_2) == 95) = false:=beq_eq_false_iff_ne.mpr c22
             have c22b1 : ((bt a0 x18_2) != 95) = true:=bne_iff_ne.mpr c22
             obtain rfl:=Option.some.inj H
             have p12 : 0 ≤ (x18_2 : Int):=of_decide_eq_true (by first|(with_reducible assumption)|assumption)
             have q12 : x18_2 < (a0.size : Int):=of_decide_eq_true (by first|(with_reducible assumption)|assumption)
             have hx12:=bt_at a0 x18_2
             replace p12:=eq_true p12
             replace q12:=eq_true q12
             go_wp2_with (first|((with_reducible refine gate_callee (f:=73) rfl ?_);refine goesL_ (some 24) rfl rfl Tryd.func73 (by kernel_rfl) rfl #[.int .u8 (bt a0 x18_2)] rfl (by (try simp only [List.map_toArray,List.map_cons,List.map_nil]);first|done|rfl|(simp only [List.length_drop,List.length_take];rfl)|(simp (disch:=first|omega|(simp at *;omega)) only [u64_id,i64_id,u8_id];rfl)) ?_;(with_reducible refine (dns_small.calls (bt a0 x18_2) false _ A13.out).mono ?_);rintro e w' ⟨rfl,⟨nd,rfl⟩⟩;refine ⟨_,rfl,?_⟩;have p15 : 0 ≤ (x18_2 : Int):=of_decide_eq_true (by first|(with_reducible assumption)|assumption);have q15 : x18_2 < (a0.size : Int):=of_decide_eq_true (by first|(with_reducible assumption)|assumption);have hx15:=bt_at a0 x18_2;replace p15:=eq_true p15;replace q15:=eq_true q15)|(go_at_call 75;(with_reducible refine (dns_great.calls (bt a0 x18_2) false _ A16.out).mono ?_);rintro e w' ⟨rfl,⟨nd,rfl⟩⟩;have p18 : 0 ≤ (x18_2 : Int):=of_decide_eq_true (by first|(with_reducible assumption)|assumption);have q18 : x18_2 < (a0.size : Int):=of_decide_eq_true (by first|(with_reducible assumption)|assumption);have hx18:=bt_at a0 x18_2;replace p18:=eq_true p18;replace q18:=eq_true q18)|(go_at_call 74;(with_reducible refine (dns_digit.calls (bt a0 x18_2) false _ A19.out).mono ?_);rintro e w' ⟨rfl,⟨nd,rfl⟩⟩;have p21 : 0 ≤ (x18_2 : Int):=of_decide_eq_true (by first|(with_reducible assumption)|assumption);have q21 : x18_2 < (a0.size : Int):=of_decide_eq_true (by first|(with_reducible assumption)|assumption);have hx21:=bt_at a0 x18_2;replace p21:=eq_true p21;replace q21:=eq_true q21))
             go_ret
             exact ⟨by first|rfl|(simp;done)|(simp [*];done),by repeat (first|exact Drawn0.refl _|apply Drawn0.step)⟩
        ·rw [if_neg c11] at H
         exact absurd H (by simp)
       ·rw [if_neg c10] at H
        exact absurd H (by simp)
      ·rw [if_neg c9] at H
       have c9b0 : decide (x18_2 < (a0.size : Int)) = false:=decide_eq_false c9
       clear c9
       obtain rfl:=Option.some.inj H
       go_wp2
       go_ret
       exact ⟨by first|rfl|(simp;done)|(simp [*];done),by repeat (first|exact Drawn0.refl _|apply Drawn0.step)⟩

end Go.Proofs.YtpmbdcljphpcnaaDoor.GC2
