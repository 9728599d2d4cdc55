/- Written by this session's own program (wip/gen.py) out of the translation: plain Lean functions of the Go functions, and proofs that the calls come to their answers. No conditions beside those in the statements. -/
import Derived.Test.YtpmbdcljphpcnaaDoorGCkx0
import Derived.Test.YtpmbdcljphpcnaaDoorGCkx7
import Derived.Test.YtpmbdcljphpcnaaDoorGCkx10
namespace Go.Proofs.YtpmbdcljphpcnaaDoor.GCk
open Go.RowKit Go.Proofs.YtpmbdcljphpcnaaDoorW.PrintWords Go.Proofs.YtpmbdcljphpcnaaDoorW.PrintLast Go.Proofs.YtpmbdcljphpcnaaDoorW.PrintMore
attribute [local go_sem] max2_int min2_int max_two min_two max_three min_three max_four min_four   -- for this text's walks alone
set_option linter.unusedVariables false
set_option linter.unusedSimpArgs false

/-! ### pack_Taker_Take: function 48 -/
mutual
def pack_Taker_Take.j0 : Nat → Int → Bool → ByteArray → Int → Option (Int × ByteArray × Int)
 | 0,_,_,_,_=>none
 | k + 1,x1,x18,x1000,x1001=>if x18 = true then (pack_Taker_Take.j1 k x1 x1000 7) else (pack_Taker_Take.j1 k x1 x1000 x1001)
def pack_Taker_Take.j1 : Nat → Int → ByteArray → Int → Option (Int × ByteArray × Int)
 | 0,_,_,_=>none
 | k + 1,x1,x1000,x1001=>(pack_Taker_bytes.f x1000 x1001 x1).bind fun bt157=>(if bt157.2.1 = true then (pack_Taker_Take.l0 k bt157.1 0 (bt157.1.size : Int) 0 bt157.2.2.1 bt157.2.2.2) else (some (0,bt157.2.2.1,bt157.2.2.2)))
def pack_Taker_Take.l0 : Nat → ByteArray → Int → Int → Int → ByteArray → Int → Option (Int × ByteArray × Int)
 | 0,_,_,_,_,_,_=>none
 | k + 1,x5,x7,x31,x32,x1000,x1001=>if x32 < x31 then (if 0 ≤ x32 then (if x32 < (x5.size : Int) then (pack_Taker_Take.l0 k x5 (Go.bits .or .u64 (IntKind.u64.wrap (x7 * 256)) (IntKind.u64.wrap (bt x5 x32))) x31 (wrap64 (x32 + 1)) x1000 x1001) else (none)) else (none)) else (some (x7,x1000,x1001))
end
def pack_Taker_Take.f (k : Nat) (s0_0 : ByteArray) (s0_1 : Int) (a1 : Int) : Option (Int × ByteArray × Int):=if s0_1 = 0 then ((pack_size.f a1).bind fun t156=>(pack_Taker_Take.j0 k a1 (!t156) s0_0 s0_1)) else (pack_Taker_Take.j0 k a1 false s0_0 s0_1)
theorem pack_Taker_Take.mono_l : ∀ k,(∀ y0 y1 y2 y3,LeO (pack_Taker_Take.j0 k y0 y1 y2 y3) (pack_Taker_Take.j0 (k + 1) y0 y1 y2 y3)) ∧ (∀ y0 y1 y2,LeO (pack_Taker_Take.j1 k y0 y1 y2) (pack_Taker_Take.j1 (k + 1) y0 y1 y2)) ∧ (∀ y0 y1 y2 y3 y4 y5,LeO (pack_Taker_Take.l0 k y0 y1 y2 y3 y4 y5) (pack_Taker_Take.l0 (k + 1) y0 y1 y2 y3 y4 y5))
 | 0=>⟨fun _ _ _ _ r h=>by simp [pack_Taker_Take.j0] at h,fun _ _ _ r h=>by simp [pack_Taker_Take.j1] at h,fun _ _ _ _ _ _ r h=>by simp [pack_Taker_Take.l0] at h⟩
 | k + 1=>by
  obtain ⟨ih0,ih1,ih2⟩:=pack_Taker_Take.mono_l k
  refine ⟨?_,?_,?_⟩
  ·intro y0 y1 y2 y3
   unfold pack_Taker_Take.j0
   repeat' first
   | (with_reducible exact ih0 _ _ _ _)
   | (with_reducible exact ih1 _ _ _)
   | (with_reducible exact ih2 _ _ _ _ _ _)
   | (with_reducible exact LeO.refl _)
   | (with_reducible exact LeO.none _)
   | (with_reducible refine LeO.ite ?_ ?_)
   | (with_reducible refine LeO.bind ?_ (fun _=>?_))
   | exact ih0 _ _ _ _
   | exact ih1 _ _ _
   | exact ih2 _ _ _ _ _ _
   | exact LeO.none _
   | refine LeO.ite ?_ ?_
   | refine LeO.bind ?_ (fun _=>?_)
  ·intro y0 y1 y2
   unfold pack_Taker_Take.j1
   repeat' first
   | (with_reducible exact ih0 _ _ _ _)
   | (with_reducible exact ih1 _ _ _)
   | (with_reducible exact ih2 _ _ _ _ _ _)
   | (with_reducible exact LeO.refl _)
   | (with_reducible exact LeO.none _)
   | (with_reducible refine LeO.ite ?_ ?_)
   | (with_reducible refine LeO.bind ?_ (fun _=>?_))
   | exact ih0 _ _ _ _
   | exact ih1 _ _ _
   | exact ih2 _ _ _ _ _ _
   | exact LeO.none _
   | refine LeO.ite ?_ ?_
   | refine LeO.bind ?_ (fun _=>?_)
  ·intro y0 y1 y2 y3 y4 y5
   unfold pack_Taker_Take.l0
   repeat' first
   | (with_reducible exact ih0 _ _ _ _)
   | (with_reducible exact ih1 _ _ _)
   | (with_reducible exact ih2 _ _ _ _ _ _)
   | (with_reducible exact LeO.refl _)
   | (with_reducible exact LeO.none _)
   | (with_reducible refine LeO.ite ?_ ?_)
   | (with_reducible refine LeO.bind ?_ (fun _=>?_))
   | exact ih0 _ _ _ _
   | exact ih1 _ _ _
   | exact ih2 _ _ _ _ _ _
   | exact LeO.none _
   | refine LeO.ite ?_ ?_
   | refine LeO.bind ?_ (fun _=>?_)
theorem pack_Taker_Take.mono : ∀ a0 a1 a2 k,LeO (pack_Taker_Take.f k a0 a1 a2) (pack_Taker_Take.f (k + 1) a0 a1 a2):=by
 intro a0 a1 a2 k
 obtain ⟨ih0,ih1,ih2⟩:=pack_Taker_Take.mono_l k
 unfold pack_Taker_Take.f
 repeat' first
   | (with_reducible exact ih0 _ _ _ _)
   | (with_reducible exact ih1 _ _ _)
   | (with_reducible exact ih2 _ _ _ _ _ _)
   | (with_reducible exact LeO.refl _)
   | (with_reducible exact LeO.none _)
   | (with_reducible refine LeO.ite ?_ ?_)
   | (with_reducible refine LeO.bind ?_ (fun _=>?_))
   | exact ih0 _ _ _ _
   | exact ih1 _ _ _
   | exact ih2 _ _ _ _ _ _
   | exact LeO.none _
   | refine LeO.ite ?_ ?_
   | refine LeO.bind ?_ (fun _=>?_)
set_option maxHeartbeats 8000000 in
set_option maxRecDepth 100000 in
theorem pack_Taker_Take.calls (k : Nat) (g : Nat) (s0_0 : ByteArray) (s0_1 : Int) (a1 : Int) (r1 : Int) (r2 : ByteArray) (r3 : Int) (w0 w : World) (hI : IsS86 w0 w g s0_0 s0_1) (hB : Below w0.heap.size w0 w) (h : pack_Taker_Take.f k s0_0 s0_1 a1 = some (r1,r2,r3)) :
  Calls Tryd.prog 48 #[.pointer (some ⟨g,0,none⟩),.int .i64 a1] w fun e w'=>e = .returned (.int .u64 r1) ∧ IsS86 w0 w' g r2 r3 ∧ Below w0.heap.size w0 w' ∧ KeepBut w w' g none:=by
 have HI0:=Aside0.mk hI
 have HK:=Aside0.mk (KeepBut.refl w g none)
 have HL:=Aside0.mk hB.size
 clear hI
 have HW0:=Aside0.mk hB.size
 have HB:=Aside0.mk hB
 clear hB
 have H : (if s0_1 = 0 then ((pack_size.f a1).bind fun t156=>(pack_Taker_Take.j0 k a1 (!t156) s0_0 s0_1)) else (pack_Taker_Take.j0 k a1 false s0_0 s0_1)) = some (r1,r2,r3):=h
 clear h
 have HC3:=Aside0.mk H
 clear H
 go_enter Tryd.func48,Tryd.ntmps48
 go_upto_region 1 with (fail)
 go_cut [18] (fun v18 wc=>∃ (kq : Nat) (x18_2 : Bool),v18 = .bool x18_2 ∧ Aside0 (pack_Taker_Take.j0 kq a1 x18_2 s0_0 s0_1 = some (r1,r2,r3)) ∧ Aside0 (kq ≤ k) ∧ Aside0 (IsS86 w0 wc g s0_0 s0_1) ∧ Aside0 (KeepBut w wc g none) ∧ Aside0 (Below w0.heap.size w0 wc))
 case first =>
  have H:=HC3.out
  clear HC3
  by_cases c4 : s0_1 = 0
  ·rw [if_pos c4] at H
   have c4b0 : (s0_1 == 0) = true:=beq_iff_eq.mpr c4
   have c4b1 : (s0_1 != 0) = false:=bne_eq_false_iff_eq.mpr c4
   clear c4
   (first|rw [c4b0]|(simp only [i64_w,i32_w];rw [c4b0])|skip)
   replace H:=Option.bind_eq_some_iff.mp H
   obtain ⟨t156,A50,H⟩:=H
   replace H : (pack_Taker_Take.j0 k a1 (!t156) s0_0 s0_1) = some (r1,r2,r3):=H
   have A5:=Aside0.mk A50
   clear A50
   have H':=Aside0.mk H
   clear H
   obtain ⟨HGz6,hgz6⟩:=HI0.out
   have hcz6_0:=cellS86_0 HGz6
   have hcz6_1:=cellS86_1 HGz6
   have hfz6_0:=blk_frozen HGz6 0
   have hfz6_1:=blk_frozen HGz6 1
   clear HGz6 hgz6
   go_wp2_with (first|(go_at_call 71;(with_reducible refine (pack_size.calls a1 t156 _ A5.out).mono ?_);rintro e w' ⟨rfl,⟨nd,rfl⟩⟩))
   go_meet
   case rel=>exact ⟨_,(!t156),(by first|rfl|(simp;done)|(simp [*];done)),H',⟨by first|omega|exact Nat.le_refl _⟩,⟨by repeat (first|(with_reducible first|exact HI0.out|apply IsS86.alloc|apply IsS86.drewN|apply IsS86.drew|apply IsS86.set_0|apply IsS86.set_1)|exact HI0.out)⟩,⟨by repeat (first|(with_reducible first|exact HK.out|apply KeepBut.set_|apply keep_drewN|apply keep_drew|apply keep_alloc)|exact HK.out)⟩,⟨by repeat (first|(with_reducible first|exact HB.out|apply below_alloc|apply pw_below_drewN|apply below_drew1|refine below_set ?_ (IsS86.ge HI0.out))|exact HB.out)⟩⟩
  ·rw [if_neg c4] at H
   have c4b0 : (s0_1 == 0) = false:=beq_eq_false_iff_ne.mpr c4
   have c4b1 : (s0_1 != 0) = true:=bne_iff_ne.mpr c4
   (first|rw [c4b0]|(simp only [i64_w,i32_w];rw [c4b0])|skip)
   have H':=Aside0.mk H
   clear H
   obtain ⟨HGz7,hgz7⟩:=HI0.out
   have hcz7_0:=cellS86_0 HGz7
   have hcz7_1:=cellS86_1 HGz7
   have hfz7_0:=blk_frozen HGz7 0
   have hfz7_1:=blk_frozen HGz7 1
   clear HGz7 hgz7
   go_wp2
   go_meet
   case rel=>exact ⟨_,(false),(by first|rfl|(simp;done)|(simp [*];done)),H',⟨by first|omega|exact Nat.le_refl _⟩,⟨by repeat (first|(with_reducible first|exact HI0.out|apply IsS86.alloc|apply IsS86.drewN|apply IsS86.drew|apply IsS86.set_0|apply IsS86.set_1)|exact HI0.out)⟩,⟨by repeat (first|(with_reducible first|exact HK.out|apply KeepBut.set_|apply keep_drewN|apply keep_drew|apply keep_alloc)|exact HK.out)⟩,⟨by repeat (first|(with_reducible first|exact HB.out|apply below_alloc|apply pw_below_drewN|apply below_drew1|refine below_set ?_ (IsS86.ge HI0.out))|exact HB.out)⟩⟩
 case rest =>
  clear HC3
  try clear p2
  try clear c4
  try clear c4b0
  try clear c4b1
  try clear hcz6_0
  try clear hcz6_1
  try clear hcz7_0
  try clear hcz7_1
  try clear hfz6_0
  try clear hfz6_1
  try clear hfz7_0
  try clear hfz7_1
  obtain ⟨kq,x18_2,rfl,HA,HJ2,HI0,HK,HB⟩:=hcut
  cases kq with
  | zero=>exact absurd HA.out (by simp [pack_Taker_Take.j0])
  | succ kj2 =>
   have H:=HA.out
   clear HA
   simp only [pack_Taker_Take.j0] at H
   have HC8:=Aside0.mk H
   clear H
   go_upto_if 18 with (fail)
   go_cut [] (fun wc=>∃ (kq : Nat) (x1001_7 : Int),Aside0 (pack_Taker_Take.j1 kq a1 s0_0 x1001_7 = some (r1,r2,r3)) ∧ Aside0 (kq ≤ kj2) ∧ Aside0 (IsS86 w0 wc g s0_0 x1001_7) ∧ Aside0 (KeepBut w wc g none) ∧ Aside0 (Below w0.heap.size w0 wc))
   case first =>
    have H:=HC8.out
    clear HC8
    by_cases c9 : x18_2 = true
    ·subst c9
     have H1 : (pack_Taker_Take.j1 kj2 a1 s0_0 7) = some (r1,r2,r3):=by rw [if_pos rfl] at H;exact H
     clear H
     have H:=H1
     clear H1
     have H':=Aside0.mk H
     clear H
     obtain ⟨HGz10,hgz10⟩:=HI0.out
     have hcz10_0:=cellS86_0 HGz10
     have hcz10_1:=cellS86_1 HGz10
     have hfz10_0:=blk_frozen HGz10 0
     have hfz10_1:=blk_frozen HGz10 1
     clear HGz10 hgz10
     go_wp2
     go_meet
     case rel=>exact ⟨_,(7),H',⟨by have:=HJ2.out;first|omega|exact Nat.le_refl _⟩,⟨by repeat (first|(with_reducible first|exact HI0.out|apply IsS86.alloc|apply IsS86.drewN|apply IsS86.drew|apply IsS86.set_0|apply IsS86.set_1)|exact HI0.out)⟩,⟨by repeat (first|(with_reducible first|exact HK.out|apply KeepBut.set_|apply keep_drewN|apply keep_drew|apply keep_alloc)|exact HK.out)⟩,⟨by repeat (first|(with_reducible first|exact HB.out|apply below_alloc|apply pw_below_drewN|apply below_drew1|refine below_set ?_ (IsS86.ge HI0.out))|exact HB.out)⟩⟩
    ·replace c9:=Bool.eq_false_iff.mpr c9
     subst c9
     have H1 : (pack_Taker_Take.j1 kj2 a1 s0_0 s0_1) = some (r1,r2,r3):=by rw [if_neg (show ¬ (false = true) by decide)] at H;exact H
     clear H
     have H:=H1
     clear H1
     have H':=Aside0.mk H
     clear H
     go_wp2
     go_meet
     case rel=>exact ⟨_,(s0_1),H',⟨by have:=HJ2.out;first|omega|exact Nat.le_refl _⟩,⟨by repeat (first|(with_reducible first|exact HI0.out|apply IsS86.alloc|apply IsS86.drewN|apply IsS86.drew|apply IsS86.set_0|apply IsS86.set_1)|exact HI0.out)⟩,⟨by repeat (first|(with_reducible first|exact HK.out|apply KeepBut.set_|apply keep_drewN|apply keep_drew|apply keep_alloc)|exact HK.out)⟩,⟨by repeat (first|(with_reducible first|exact HB.out|apply below_alloc|apply pw_below_drewN|apply below_drew1|refine below_set ?_ (IsS86.ge HI0.out))|exact HB.out)⟩⟩
   case rest =>
    clear HC8
    try clear p2
    try clear c4
    try clear c4b0
    try clear c4b1
    try clear c9
    try clear hcz10_0
    try clear hcz10_1
    try clear hcz6_0
    try clear hcz6_1
    try clear hcz7_0
    try clear hcz7_1
    try clear hfz10_0
    try clear hfz10_1
    try clear hfz6_0
    try clear hfz6_1
    try clear hfz7_0
    try clear hfz7_1
    try clear p2
    obtain ⟨kq,x1001_7,HA,HJ7,HI0,HK,HB⟩:=hcut
    cases kq with
    | zero=>exact absurd HA.out (by simp [pack_Taker_Take.j1])
    | succ kj7 =>
     have H:=HA.out
     clear HA
     simp only [pack_Taker_Take.j1] at H
     replace H:=Option.bind_eq_some_iff.mp H
     obtain ⟨⟨t157,t158,t159,t160⟩,A110,H⟩:=H
     replace H : (if t158 = true then (pack_Taker_Take.l0 kj7 t157 0 (t157.size : Int) 0 t159 t160) else (some (0,t159,t160))) = some (r1,r2,r3):=H
     have A11:=Aside0.mk A110
     clear A110
     by_cases c12 : t158 = true
     ·subst c12
      have H1 : (pack_Taker_Take.l0 kj7 t157 0 (t157.size : Int) 0 t159 t160) = some (r1,r2,r3):=by rw [if_pos rfl] at H;exact H
      clear H
      have H:=H1
      clear H1
      have H':=Aside0.mk H
      clear H
      go_wp2_with (first|((with_reducible refine gate_callee (f:=77) rfl ?_);refine goesL_ (some 25) rfl rfl Tryd.func77 (by kernel_rfl) rfl #[.pointer (some ⟨g,0,none⟩),.int .i64 a1] rfl (by (try simp only [List.map_toArray,List.map_cons,List.map_nil]);first|done|rfl|(simp only [List.length_drop,List.length_take];rfl)|(simp (disch:=first|omega|(simp at *;omega)) only [u64_id,i64_id,u8_id];rfl)) ?_;(with_reducible refine (pack_Taker_bytes.calls g s0_0 x1001_7 a1 t157 true t159 t160 w0 _ ?side1 ?side2 A11.out).mono ?_);(case side1=>repeat (first|(with_reducible first|exact HI0.out|apply IsS86.alloc|apply IsS86.drewN|apply IsS86.drew|apply IsS86.set_0|apply IsS86.set_1)|exact HI0.out));(case side2=>repeat (first|(with_reducible first|exact HB.out|apply below_alloc|apply pw_below_drewN|apply below_drew1|refine below_set ?_ (IsS86.ge HI0.out))|exact HB.out));rintro e w13 ⟨rfl,hi,hb,hk⟩;refine ⟨_,rfl,?_⟩;have n0_:=Aside0.mk (KeepBut.trans (by repeat (first|(with_reducible first|exact HK.out|apply KeepBut.set_|apply keep_drewN|apply keep_drew|apply keep_alloc)|exact HK.out)) hk (.inl rfl));have n1_:=Aside0.mk (hb);have n2_:=Aside0.mk (hi);clear HK;clear HB;clear HI0;have HK:=n0_;have HB:=n1_;have HI0:=n2_;clear n0_ n1_ n2_;(try clear hb);(try clear hb2);(try clear hk);(try clear hi)))
      go_loopg [7,32] kj7 (fun kq v7 v32 w'=>∃ (x7_3 : Int) (x32_3 : Int),v7 = .int .u64 x7_3 ∧ v32 = .int .i64 x32_3 ∧ Aside0 (pack_Taker_Take.l0 kq t157 x7_3 (t157.size : Int) x32_3 t159 t160 = some (r1,r2,r3)) ∧ Aside0 (kq ≤ kj7) ∧ Aside0 (IsS86 w0 w' g t159 t160) ∧ Aside0 (KeepBut w w' g none) ∧ Aside0 (Below w0.heap.size w0 w'))
      case atStart=>exact ⟨(0),(0),(by first|rfl|(simp;done)|(simp [*];done)),(by first|rfl|(simp;done)|(simp [*];done)),H',⟨Nat.le_refl _⟩,⟨by repeat (first|(with_reducible first|exact HI0.out|apply IsS86.alloc|apply IsS86.drewN|apply IsS86.drew|apply IsS86.set_0|apply IsS86.set_1)|exact HI0.out)⟩,⟨by repeat (first|(with_reducible first|exact HK.out|apply KeepBut.set_|apply keep_drewN|apply keep_drew|apply keep_alloc)|exact HK.out)⟩,⟨by repeat (first|(with_reducible first|exact HB.out|apply below_alloc|apply pw_below_drewN|apply below_drew1|refine below_set ?_ (IsS86.ge HI0.out))|exact HB.out)⟩⟩
      case round =>
       clear H'
       try clear c1
       try clear p2
       try clear c4
       try clear c4b0
       try clear c4b1
       try clear c7
       try clear c9
       try clear c12
       try clear hcz10_0
       try clear hcz10_1
       try clear hcz6_0
       try clear hcz6_1
       try clear hcz7_0
       try clear hcz7_1
       try clear hfz10_0
       try clear hfz10_1
       try clear hfz6_0
       try clear hfz6_1
       try clear hfz7_0
       try clear hfz7_1
       try clear p2
       obtain ⟨x7_3,x32_3,rfl,rfl,HA,HK3,HI0,HK,HB⟩:=hrel
       cases gk with
       | zero=>exact absurd HA.out (by simp [pack_Taker_Take.l0])
       | succ k3 =>
        have H:=HA.out
        clear HA
        simp only [pack_Taker_Take.l0] at H
        by_cases c14 : x32_3 < (t157.size : Int)
        ·rw [if_pos c14] at H
         have c14b0 : decide (x32_3 < (t157.size : Int)) = true:=decide_eq_true c14
         clear c14
         by_cases c15 : 0 ≤ x32_3
         ·rw [if_pos c15] at H
          have c15b0 : decide (0 ≤ x32_3) = true:=decide_eq_true c15
          clear c15
          by_cases c16 : x32_3 < (t157.size : Int)
          ·rw [if_pos c16] at H
           have c16b0 : decide (x32_3 < (t157.size : Int)) = true:=decide_eq_true c16
           clear c16
           have H':=Aside0.mk H
           clear H
           have p17 : 0 ≤ (x32_3 : Int):=of_decide_eq_true (by first|(with_reducible assumption)|assumption)
           have q17 : x32_3 < (t157.size : Int):=of_decide_eq_true (by first|(with_reducible assumption)|assumption)
           have hx17:=bt_at t157 x32_3
           replace p17:=eq_true p17
           replace q17:=eq_true q17
           go_wp2
           go_roundg k3
           case measure=>have:=HJ2.out;have:=HJ7.out;have:=HK3.out;omega
           case rel=>exact ⟨(Go.bits .or .u64 (IntKind.u64.wrap (x7_3 * 256)) (IntKind.u64.wrap (bt t157 x32_3))),(wrap64 (x32_3 + 1)),(by first|rfl|(simp;done)|(simp [*];done)),(by first|rfl|(simp;done)|(simp [*];done)),H',⟨by have:=HJ2.out;have:=HJ7.out;have:=HK3.out;omega⟩,⟨by repeat (first|(with_reducible first|exact HI0.out|apply IsS86.alloc|apply IsS86.drewN|apply IsS86.drew|apply IsS86.set_0|apply IsS86.set_1)|exact HI0.out)⟩,⟨by repeat (first|(with_reducible first|exact HK.out|apply KeepBut.set_|apply keep_drewN|apply keep_drew|apply keep_alloc)|exact HK.out)⟩,⟨by repeat (first|(with_reducible first|exact HB.out|apply below_alloc|apply pw_below_drewN|apply below_drew1|refine below_set ?_ (IsS86.ge HI0.out))|exact HB.out)⟩⟩
          ·rw [if_neg c16] at H
           exact absurd H (by simp)
         ·rw [if_neg c15] at H
          exact absurd H (by simp)
        ·rw [if_neg c14] at H
         have c14b0 : decide (x32_3 < (t157.size : Int)) = false:=decide_eq_false c14
         clear c14
         simp only [Option.some.injEq,Prod.mk.injEq] at H
         obtain ⟨rfl,rfl,rfl⟩:=H
         go_wp2
         go_ret
         exact ⟨by first|rfl|(simp [errW_none,errW_some] <;> rfl)|(simp [*,errW_none,errW_some] <;> rfl),by repeat (first|(with_reducible first|exact HI0.out|apply IsS86.alloc|apply IsS86.drewN|apply IsS86.drew|apply IsS86.set_0|apply IsS86.set_1)|exact HI0.out),by repeat (first|(with_reducible first|exact HB.out|apply below_alloc|apply pw_below_drewN|apply below_drew1|refine below_set ?_ (IsS86.ge HI0.out))|exact HB.out),by repeat (first|(with_reducible first|exact HK.out|apply KeepBut.set_|apply keep_drewN|apply keep_drew|apply keep_alloc)|exact HK.out)⟩
     ·replace c12:=Bool.eq_false_iff.mpr c12
      subst c12
      have H1 : (some (0,t159,t160)) = some (r1,r2,r3):=by rw [if_neg (show ¬ (false = true) by decide)] at H;exact H
      clear H
      have H:=H1
      clear H1
      simp only [Option.some.injEq,Prod.mk.injEq] at H
      obtain ⟨rfl,rfl,rfl⟩:=H
      go_wp2_with (first|((with_reducible refine gate_callee (f:=77) rfl ?_);refine goesL_ (some 25) rfl rfl Tryd.func77 (by kernel_rfl) rfl #[.pointer (some ⟨g,0,none⟩),.int .i64 a1] rfl (by (try simp only [List.map_toArray,List.map_cons,List.map_nil]);first|done|rfl|(simp only [List.length_drop,List.length_take];rfl)|(simp (disch:=first|omega|(simp at *;omega)) only [u64_id,i64_id,u8_id];rfl)) ?_;(with_reducible refine (pack_Taker_bytes.calls g s0_0 x1001_7 a1 t157 false t159 t160 w0 _ ?side1 ?side2 A11.out).mono ?_);(case side1=>repeat (first|(with_reducible first|exact HI0.out|apply IsS86.alloc|apply IsS86.drewN|apply IsS86.drew|apply IsS86.set_0|apply IsS86.set_1)|exact HI0.out));(case side2=>repeat (first|(with_reducible first|exact HB.out|apply below_alloc|apply pw_below_drewN|apply below_drew1|refine below_set ?_ (IsS86.ge HI0.out))|exact HB.out));rintro e w18 ⟨rfl,hi,hb,hk⟩;refine ⟨_,rfl,?_⟩;have n0_:=Aside0.mk (KeepBut.trans (by repeat (first|(with_reducible first|exact HK.out|apply KeepBut.set_|apply keep_drewN|apply keep_drew|apply keep_alloc)|exact HK.out)) hk (.inl rfl));have n1_:=Aside0.mk (hb);have n2_:=Aside0.mk (hi);clear HK;clear HB;clear HI0;have HK:=n0_;have HB:=n1_;have HI0:=n2_;clear n0_ n1_ n2_;(try clear hb);(try clear hb2);(try clear hk);(try clear hi)))
      go_ret
      exact ⟨by first|rfl|(simp [errW_none,errW_some] <;> rfl)|(simp [*,errW_none,errW_some] <;> rfl),by repeat (first|(with_reducible first|exact HI0.out|apply IsS86.alloc|apply IsS86.drewN|apply IsS86.drew|apply IsS86.set_0|apply IsS86.set_1)|exact HI0.out),by repeat (first|(with_reducible first|exact HB.out|apply below_alloc|apply pw_below_drewN|apply below_drew1|refine below_set ?_ (IsS86.ge HI0.out))|exact HB.out),by repeat (first|(with_reducible first|exact HK.out|apply KeepBut.set_|apply keep_drewN|apply keep_drew|apply keep_alloc)|exact HK.out)⟩

/-! ### pack_Taker_back: function 78 -/
def pack_Taker_back.f (s0_0 : ByteArray) (s0_1 : Int) (a1 : ByteArray) (a2 : Int) : Option (ByteArray × Int):=some (a1,a2)
set_option maxHeartbeats 8000000 in
set_option maxRecDepth 100000 in
theorem pack_Taker_back.calls (g : Nat) (s0_0 : ByteArray) (s0_1 : Int) (a1 : ByteArray) (a2 : Int) (r1 : ByteArray) (r2 : Int) (w0 w : World) (hI : IsS86 w0 w g s0_0 s0_1) (hB : Below w0.heap.size w0 w) (h : pack_Taker_back.f s0_0 s0_1 a1 a2 = some (r1,r2)) :
  Calls Tryd.prog 78 #[.pointer (some ⟨g,0,none⟩),.string a1,.int .i64 a2] w fun e w'=>e = .returned (.tuple #[]) ∧ IsS86 w0 w' g r1 r2 ∧ Below w0.heap.size w0 w' ∧ KeepBut w w' g none:=by
 have HI0:=Aside0.mk hI
 have HK:=Aside0.mk (KeepBut.refl w g none)
 have HL:=Aside0.mk hB.size
 clear hI
 have HW0:=Aside0.mk hB.size
 have HB:=Aside0.mk hB
 clear hB
 have H : (some (a1,a2)) = some (r1,r2):=h
 clear h
 simp only [Option.some.injEq,Prod.mk.injEq] at H
 obtain ⟨rfl,rfl⟩:=H
 obtain ⟨HGz4,hgz4⟩:=HI0.out
 have hcz4_0:=cellS86_0 HGz4
 have hcz4_1:=cellS86_1 HGz4
 have hfz4_0:=blk_frozen HGz4 0
 have hfz4_1:=blk_frozen HGz4 1
 clear HGz4 hgz4
 go_enter Tryd.func78,Tryd.ntmps78
 go_wp2
 first|go_end0|((try simp only [Exit.inBlock,Exit.then]);refine bodyPost_ret (results_none rfl _ _ _) rfl ?_)
 exact ⟨by first|rfl|(simp [errW_none,errW_some] <;> rfl)|(simp [*,errW_none,errW_some] <;> rfl),by repeat (first|(with_reducible first|exact HI0.out|apply IsS86.alloc|apply IsS86.drewN|apply IsS86.drew|apply IsS86.set_0|apply IsS86.set_1)|exact HI0.out),by repeat (first|(with_reducible first|exact HB.out|apply below_alloc|apply pw_below_drewN|apply below_drew1|refine below_set ?_ (IsS86.ge HI0.out))|exact HB.out),by repeat (first|(with_reducible first|exact HK.out|apply KeepBut.set_|apply keep_drewN|apply keep_drew|apply keep_alloc)|exact HK.out)⟩

/-! ### pack_Taker_Text: function 49 -/
def pack_Taker_Text.f (k : Nat) (s0_0 : ByteArray) (s0_1 : Int) : Option (ByteArray × ByteArray × Int):=(pack_Taker_Take.f k s0_0 s0_1 2).bind fun bt161=>(if (wrap64 (bt161.1)) > 4096 then ((pack_Taker_back.f bt161.2.1 bt161.2.2 s0_0 2).bind fun bt164=>((pack_Taker_bytes.f bt164.1 bt164.2 (wrap64 (bt161.1))).bind fun bt166=>(if bt166.2.1 = true then (some (bt166.1,bt166.2.2.1,bt166.2.2.2)) else (some (bt166.1,s0_0,bt166.2.2.2))))) else ((pack_Taker_bytes.f bt161.2.1 bt161.2.2 (wrap64 (bt161.1))).bind fun bt170=>(if bt170.2.1 = true then (some (bt170.1,bt170.2.2.1,bt170.2.2.2)) else (some (bt170.1,s0_0,bt170.2.2.2)))))
theorem pack_Taker_Text.mono : ∀ a0 a1 k,LeO (pack_Taker_Text.f k a0 a1) (pack_Taker_Text.f (k + 1) a0 a1):=by
 intro a0 a1 k
 unfold pack_Taker_Text.f
 repeat' first
   | (with_reducible exact pack_Taker_Take.mono _ _ _ _)
   | (with_reducible exact LeO.refl _)
   | (with_reducible exact LeO.none _)
   | (with_reducible refine LeO.ite ?_ ?_)
   | (with_reducible refine LeO.bind ?_ (fun _=>?_))
   | exact pack_Taker_Take.mono _ _ _ _
   | exact LeO.none _
   | refine LeO.ite ?_ ?_
   | refine LeO.bind ?_ (fun _=>?_)
set_option maxHeartbeats 8000000 in
set_option maxRecDepth 100000 in
theorem pack_Taker_Text.calls (k : Nat) (g : Nat) (s0_0 : ByteArray) (s0_1 : Int) (r1 : ByteArray) (r2 : ByteArray) (r3 : Int) (w0 w : World) (hI : IsS86 w0 w g s0_0 s0_1) (hB : Below w0.heap.size w0 w) (h : pack_Taker_Text.f k s0_0 s0_1 = some (r1,r2,r3)) :
  Calls Tryd.prog 49 #[.pointer (some ⟨g,0,none⟩)] w fun e w'=>e = .returned (.string r1) ∧ IsS86 w0 w' g r2 r3 ∧ Below w0.heap.size w0 w' ∧ KeepBut w w' g none:=by
 have HI0:=Aside0.mk hI
 have HK:=Aside0.mk (KeepBut.refl w g none)
 have HL:=Aside0.mk hB.size
 clear hI
 have HW0:=Aside0.mk hB.size
 have HB:=Aside0.mk hB
 clear hB
 have H : ((pack_Taker_Take.f k s0_0 s0_1 2).bind fun bt161=>(if (wrap64 (bt161.1)) > 4096 then ((pack_Taker_back.f bt161.2.1 bt161.2.2 s0_0 2).bind fun bt164=>((pack_Taker_bytes.f bt164.1 bt164.2 (wrap64 (bt161.1))).bind fun bt166=>(if bt166.2.1 = true then (some (bt166.1,bt166.2.2.1,bt166.2.2.2)) else (some (bt166.1,s0_0,bt166.2.2.2))))) else ((pack_Taker_bytes.f bt161.2.1 bt161.2.2 (wrap64 (bt161.1))).bind fun bt170=>(if bt170.2.1 = true then (some (bt170.1,bt170.2.2.1,bt170.2.2.2)) else (some (bt170.1,s0_0,bt170.2.2.2)))))) = some (r1,r2,r3):=h
 clear h
 replace H:=Option.bind_eq_some_iff.mp H
 obtain ⟨⟨t161,t162,t163⟩,A20,H⟩:=H
 replace H : (if (wrap64 (t161)) > 4096 then ((pack_Taker_back.f t162 t163 s0_0 2).bind fun bt164=>((pack_Taker_bytes.f bt164.1 bt164.2 (wrap64 (t161))).bind fun bt166=>(if bt166.2.1 = true then (some (bt166.1,bt166.2.2.1,bt166.2.2.2)) else (some (bt166.1,s0_0,bt166.2.2.2))))) else ((pack_Taker_bytes.f t162 t163 (wrap64 (t161))).bind fun bt170=>(if bt170.2.1 = true then (some (bt170.1,bt170.2.2.1,bt170.2.2.2)) else (some (bt170.1,s0_0,bt170.2.2.2))))) = some (r1,r2,r3):=H
 have A2:=Aside0.mk A20
 clear A20
 by_cases c3 : (wrap64 (t161)) > 4096
 ·rw [if_pos c3] at H
  have c3b0 : decide (4096 < (wrap64 (t161))) = true:=decide_eq_true c3
  clear c3
  replace H:=Option.bind_eq_some_iff.mp H
  obtain ⟨⟨t164,t165⟩,A40,H⟩:=H
  replace H : ((pack_Taker_bytes.f t164 t165 (wrap64 (t161))).bind fun bt166=>(if bt166.2.1 = true then (some (bt166.1,bt166.2.2.1,bt166.2.2.2)) else (some (bt166.1,s0_0,bt166.2.2.2)))) = some (r1,r2,r3):=H
  have A4:=Aside0.mk A40
  clear A40
  replace H:=Option.bind_eq_some_iff.mp H
  obtain ⟨⟨t166,t167,t168,t169⟩,A50,H⟩:=H
  replace H : (if t167 = true then (some (t166,t168,t169)) else (some (t166,s0_0,t169))) = some (r1,r2,r3):=H
  have A5:=Aside0.mk A50
  clear A50
  by_cases c6 : t167 = true
  ·subst c6
   have H1 : (some (t166,t168,t169)) = some (r1,r2,r3):=by rw [if_pos rfl] at H;exact H
   clear H
   have H:=H1
   clear H1
   simp only [Option.some.injEq,Prod.mk.injEq] at H
   obtain ⟨rfl,rfl,rfl⟩:=H
   obtain ⟨HGz7,hgz7⟩:=HI0.out
   have hcz7_0:=cellS86_0 HGz7
   have hcz7_1:=cellS86_1 HGz7
   have hfz7_0:=blk_frozen HGz7 0
   have hfz7_1:=blk_frozen HGz7 1
   clear HGz7 hgz7
   go_enter Tryd.func49,Tryd.ntmps49
   go_wp2_with (first|((with_reducible refine gate_callee (f:=48) rfl ?_);refine goesL_ (some 12) rfl rfl Tryd.func48 (by kernel_rfl) rfl #[.pointer (some ⟨g,0,none⟩),.int .i64 2] rfl (by (try simp only [List.map_toArray,List.map_cons,List.map_nil]);first|done|rfl|(simp only [List.length_drop,List.length_take];rfl)|(simp (disch:=first|omega|(simp at *;omega)) only [u64_id,i64_id,u8_id];rfl)) ?_;(with_reducible refine (pack_Taker_Take.calls k g s0_0 s0_1 2 t161 t162 t163 w0 _ ?side1 ?side2 A2.out).mono ?_);(case side1=>repeat (first|(with_reducible first|exact HI0.out|apply IsS86.alloc|apply IsS86.drewN|apply IsS86.drew|apply IsS86.set_0|apply IsS86.set_1)|exact HI0.out));(case side2=>repeat (first|(with_reducible first|exact HB.out|apply below_alloc|apply pw_below_drewN|apply below_drew1|refine below_set ?_ (IsS86.ge HI0.out))|exact HB.out));rintro e w8 ⟨rfl,hi,hb,hk⟩;refine ⟨_,rfl,?_⟩;have n0_:=Aside0.mk (KeepBut.trans (by repeat (first|(with_reducible first|exact HK.out|apply KeepBut.set_|apply keep_drewN|apply keep_drew|apply keep_alloc)|exact HK.out)) hk (.inl rfl));have n1_:=Aside0.mk (hb);have n2_:=Aside0.mk (hi);clear HK;clear HB;clear HI0;have HK:=n0_;have HB:=n1_;have HI0:=n2_;clear n0_ n1_ n2_;(try clear hb);(try clear hb2);(try clear hk);(try clear hi))|((with_reducible refine gate_callee (f:=78) rfl ?_);refine goesL_ (some 18) rfl rfl Tryd.func78 (by kernel_rfl) rfl #[.pointer (some ⟨g,0,none⟩),.string s0_0,.int .i64 2] rfl (by (try simp only [List.map_toArray,List.map_cons,List.map_nil]);first|done|rfl|(simp only [List.length_drop,List.length_take];rfl)|(simp (disch:=first|omega|(simp at *;omega)) only [u64_id,i64_id,u8_id];rfl)) ?_;(with_reducible refine (pack_Taker_back.calls g t162 t163 s0_0 2 t164 t165 w0 _ ?side1 ?side2 A4.out).mono ?_);(case side1=>repeat (first|(with_reducible first|exact HI0.out|apply IsS86.alloc|apply IsS86.drewN|apply IsS86.drew|apply IsS86.set_0|apply IsS86.set_1)|exact HI0.out));(case side2=>repeat (first|(with_reducible first|exact HB.out|apply below_alloc|apply pw_below_drewN|apply below_drew1|refine below_set ?_ (IsS86.ge HI0.out))|exact HB.out));rintro e w9 ⟨rfl,hi,hb,hk⟩;refine ⟨_,rfl,?_⟩;have n0_:=Aside0.mk (KeepBut.trans (by repeat (first|(with_reducible first|exact HK.out|apply KeepBut.set_|apply keep_drewN|apply keep_drew|apply keep_alloc)|exact HK.out)) hk (.inl rfl));have n1_:=Aside0.mk (hb);have n2_:=Aside0.mk (hi);clear HK;clear HB;clear HI0;have HK:=n0_;have HB:=n1_;have HI0:=n2_;clear n0_ n1_ n2_;(try clear hb);(try clear hb2);(try clear hk);(try clear hi))|((with_reducible refine gate_callee (f:=77) rfl ?_);refine goesL_ (some 22) rfl rfl Tryd.func77 (by kernel_rfl) rfl #[.pointer (some ⟨g,0,none⟩),.int .i64 (wrap64 (t161))] rfl (by (try simp only [List.map_toArray,List.map_cons,List.map_nil]);first|done|rfl|(simp only [List.length_drop,List.length_take];rfl)|(simp (disch:=first|omega|(simp at *;omega)) only [u64_id,i64_id,u8_id];rfl)) ?_;(with_reducible refine (pack_Taker_bytes.calls g t164 t165 (wrap64 (t161)) t166 true t168 t169 w0 _ ?side1 ?side2 A5.out).mono ?_);(case side1=>repeat (first|(with_reducible first|exact HI0.out|apply IsS86.alloc|apply IsS86.drewN|apply IsS86.drew|apply IsS86.set_0|apply IsS86.set_1)|exact HI0.out));(case side2=>repeat (first|(with_reducible first|exact HB.out|apply below_alloc|apply pw_below_drewN|apply below_drew1|refine below_set ?_ (IsS86.ge HI0.out))|exact HB.out));rintro e w10 ⟨rfl,hi,hb,hk⟩;refine ⟨_,rfl,?_⟩;have n0_:=Aside0.mk (KeepBut.trans (by repeat (first|(with_reducible first|exact HK.out|apply KeepBut.set_|apply keep_drewN|apply keep_drew|apply keep_alloc)|exact HK.out)) hk (.inl rfl));have n1_:=Aside0.mk (hb);have n2_:=Aside0.mk (hi);clear HK;clear HB;clear HI0;have HK:=n0_;have HB:=n1_;have HI0:=n2_;clear n0_ n1_ n2_;(try clear hb);(try clear hb2);(try clear hk);(try clear hi)))
   go_ret
   exact ⟨by first|rfl|(simp [errW_none,errW_some] <;> rfl)|(simp [*,errW_none,errW_some] <;> rfl),by repeat (first|(with_reducible first|exact HI0.out|apply IsS86.alloc|apply IsS86.drewN|apply IsS86.drew|apply IsS86.set_0|apply IsS86.set_1)|exact HI0.out),by repeat (first|(with_reducible first|exact HB.out|apply below_alloc|apply pw_below_drewN|apply below_drew1|refine below_set ?_ (IsS86.ge HI0.out))|exact HB.out),by repeat (first|(with_reducible first|exact HK.out|apply KeepBut.set_|apply keep_drewN|apply keep_drew|apply keep_alloc)|exact HK.out)⟩
  ·replace c6:=Bool.eq_false_iff.mpr c6
   subst c6
   have H1 : (some (t166,s0_0,t169)) = some (r1,r2,r3):=by rw [if_neg (show ¬ (false = true) by decide)] at H;exact H
   clear H
   have H:=H1
   clear H1
   simp only [Option.some.injEq,Prod.mk.injEq] at H
   obtain ⟨rfl,rfl,rfl⟩:=H
   obtain ⟨HGz11,hgz11⟩:=HI0.out
   have hcz11_0:=cellS86_0 HGz11
   have hcz11_1:=cellS86_1 HGz11
   have hfz11_0:=blk_frozen HGz11 0
   have hfz11_1:=blk_frozen HGz11 1
   clear HGz11 hgz11
   go_enter Tryd.func49,Tryd.ntmps49
   go_wp2_with (first|((with_reducible refine gate_callee (f:=48) rfl ?_);refine goesL_ (some 12) rfl rfl Tryd.func48 (by kernel_rfl) rfl #[.pointer (some ⟨g,0,none⟩),.int .i64 2] rfl (by (try simp only [List.map_toArray,List.map_cons,List.map_nil]);first|done|rfl|(simp only [List.length_drop,List.length_take];rfl)|(simp (disch:=first|omega|(simp at *;omega)) only [u64_id,i64_id,u8_id];rfl)) ?_;(with_reducible refine (pack_Taker_Take.calls k g s0_0 s0_1 2 t161 t162 t163 w0 _ ?side1 ?side2 A2.out).mono ?_);(case side1=>repeat (first|(with_reducible first|exact HI0.out|apply IsS86.alloc|apply IsS86.drewN|apply IsS86.drew|apply IsS86.set_0|apply IsS86.set_1)|exact HI0.out));(case side2=>repeat (first|(with_reducible first|exact HB.out|apply below_alloc|apply pw_below_drewN|apply below_drew1|refine below_set ?_ (IsS86.ge HI0.out))|exact HB.out));rintro e w12 ⟨rfl,hi,hb,hk⟩;refine ⟨_,rfl,?_⟩;have n0_:=Aside0.mk (KeepBut.trans (by repeat (first|(with_reducible first|exact HK.out|apply KeepBut.set_|apply keep_drewN|apply keep_drew|apply keep_alloc)|exact HK.out)) hk (.inl rfl));have n1_:=Aside0.mk (hb);have n2_:=Aside0.mk (hi);clear HK;clear HB;clear HI0;have HK:=n0_;have HB:=n1_;have HI0:=n2_;clear n0_ n1_ n2_;(try clear hb);(try clear hb2);(try clear hk);(try clear hi))|((with_reducible refine gate_callee (f:=78) rfl ?_);refine goesL_ (some 18) rfl rfl Tryd.func78 (by kernel_rfl) rfl #[.pointer (some ⟨g,0,none⟩),.string s0_0,.int .i64 2] rfl (by (try simp only [List.map_toArray,List.map_cons,List.map_nil]);first|done|rfl|(simp only [List.length_drop,List.length_take];rfl)|(simp (disch:=first|omega|(simp at *;omega)) only [u64_id,i64_id,u8_id];rfl)) ?_;(with_reducible refine (pack_Taker_back.calls g t162 t163 s0_0 2 t164 t165 w0 _ ?side1 ?side2 A4.out).mono ?_);(case side1=>repeat (first|(with_reducible first|exact HI0.out|apply IsS86.alloc|apply IsS86.drewN|apply IsS86.drew|apply IsS86.set_0|apply IsS86.set_1)|exact HI0.out));(case side2=>repeat (first|(with_reducible first|exact HB.out|apply below_alloc|apply pw_below_drewN|apply below_drew1|refine below_set ?_ (IsS86.ge HI0.out))|exact HB.out));rintro e w13 ⟨rfl,hi,hb,hk⟩;refine ⟨_,rfl,?_⟩;have n0_:=Aside0.mk (KeepBut.trans (by repeat (first|(with_reducible first|exact HK.out|apply KeepBut.set_|apply keep_drewN|apply keep_drew|apply keep_alloc)|exact HK.out)) hk (.inl rfl));have n1_:=Aside0.mk (hb);have n2_:=Aside0.mk (hi);clear HK;clear HB;clear HI0;have HK:=n0_;have HB:=n1_;have HI0:=n2_;clear n0_ n1_ n2_;(try clear hb);(try clear hb2);(try clear hk);(try clear hi))|((with_reducible refine gate_callee (f:=77) rfl ?_);refine goesL_ (some 22) rfl rfl Tryd.func77 (by kernel_rfl) rfl #[.pointer (some ⟨g,0,none⟩),.int .i64 (wrap64 (t161))] rfl (by (try simp only [List.map_toArray,List.map_cons,List.map_nil]);first|done|rfl|(simp only [List.length_drop,List.length_take];rfl)|(simp (disch:=first|omega|(simp at *;omega)) only [u64_id,i64_id,u8_id];rfl)) ?_;(with_reducible refine (pack_Taker_bytes.calls g t164 t165 (wrap64 (t161)) t166 false t168 t169 w0 _ ?side1 ?side2 A5.out).mono ?_);(case side1=>repeat (first|(with_reducible first|exact HI0.out|apply IsS86.alloc|apply IsS86.drewN|apply IsS86.drew|apply IsS86.set_0|apply IsS86.set_1)|exact HI0.out));(case side2=>repeat (first|(with_reducible first|exact HB.out|apply below_alloc|apply pw_below_drewN|apply below_drew1|refine below_set ?_ (IsS86.ge HI0.out))|exact HB.out));rintro e w14 ⟨rfl,hi,hb,hk⟩;refine ⟨_,rfl,?_⟩;have n0_:=Aside0.mk (KeepBut.trans (by repeat (first|(with_reducible first|exact HK.out|apply KeepBut.set_|apply keep_drewN|apply keep_drew|apply keep_alloc)|exact HK.out)) hk (.inl rfl));have n1_:=Aside0.mk (hb);have n2_:=Aside0.mk (hi);clear HK;clear HB;clear HI0;have HK:=n0_;have HB:=n1_;have HI0:=n2_;clear n0_ n1_ n2_;(try clear hb);(try clear hb2);(try clear hk);(try clear hi);obtain ⟨HGz15,hgz15⟩:=HI0.out;have hcz15_0:=cellS86_0 HGz15;have hcz15_1:=cellS86_1 HGz15;have hfz15_0:=blk_frozen HGz15 0;have hfz15_1:=blk_frozen HGz15 1;clear HGz15 hgz15))
   go_ret
   exact ⟨by first|rfl|(simp [errW_none,errW_some] <;> rfl)|(simp [*,errW_none,errW_some] <;> rfl),by repeat (first|(with_reducible first|exact HI0.out|apply IsS86.alloc|apply IsS86.drewN|apply IsS86.drew|apply IsS86.set_0|apply IsS86.set_1)|exact HI0.out),by repeat (first|(with_reducible first|exact HB.out|apply below_alloc|apply pw_below_drewN|apply below_drew1|refine below_set ?_ (IsS86.ge HI0.out))|exact HB.out),by repeat (first|(with_reducible first|exact HK.out|apply KeepBut.set_|apply keep_drewN|apply keep_drew|apply keep_alloc)|exact HK.out)⟩
 ·rw [if_neg c3] at H
  have c3b0 : decide (4096 < (wrap64 (t161))) = false:=decide_eq_false c3
  clear c3
  replace H:=Option.bind_eq_some_iff.mp H
  obtain ⟨⟨t170,t171,t172,t173⟩,A160,H⟩:=H
  replace H : (if t171 = true then (some (t170,t172,t173)) else (some (t170,s0_0,t173))) = some (r1,r2,r3):=H
  have A16:=Aside0.mk A160
  clear A160
  by_cases c17 : t171 = true
  ·subst c17
   have H1 : (some (t170,t172,t173)) = some (r1,r2,r3):=by rw [if_pos rfl] at H;exact H
   clear H
   have H:=H1
   clear H1
   simp only [Option.some.injEq,Prod.mk.injEq] at H
   obtain ⟨rfl,rfl,rfl⟩:=H
   obtain ⟨HGz18,hgz18⟩:=HI0.out
   have hcz18_0:=cellS86_0 HGz18
   have hcz18_1:=cellS86_1 HGz18
   have hfz18_0:=blk_frozen HGz18 0
   have hfz18_1:=blk_frozen HGz18 1
   clear HGz18 hgz18
   go_enter Tryd.func49,Tryd.ntmps49
   go_wp2_with (first|((with_reducible refine gate_callee (f:=48) rfl ?_);refine goesL_ (some 12) rfl rfl Tryd.func48 (by kernel_rfl) rfl #[.pointer (some ⟨g,0,none⟩),.int .i64 2] rfl (by (try simp only [List.map_toArray,List.map_cons,List.map_nil]);first|done|rfl|(simp only [List.length_drop,List.length_take];rfl)|(simp (disch:=first|omega|(simp at *;omega)) only [u64_id,i64_id,u8_id];rfl)) ?_;(with_reducible refine (pack_Taker_Take.calls k g s0_0 s0_1 2 t161 t162 t163 w0 _ ?side1 ?side2 A2.out).mono ?_);(case side1=>repeat (first|(with_reducible first|exact HI0.out|apply IsS86.alloc|apply IsS86.drewN|apply IsS86.drew|apply IsS86.set_0|apply IsS86.set_1)|exact HI0.out));(case side2=>repeat (first|(with_reducible first|exact HB.out|apply below_alloc|apply pw_below_drewN|apply below_drew1|refine below_set ?_ (IsS86.ge HI0.out))|exact HB.out));rintro e w19 ⟨rfl,hi,hb,hk⟩;refine ⟨_,rfl,?_⟩;have n0_:=Aside0.mk (KeepBut.trans (by repeat (first|(with_reducible first|exact HK.out|apply KeepBut.set_|apply keep_drewN|apply keep_drew|apply keep_alloc)|exact HK.out)) hk (.inl rfl));have n1_:=Aside0.mk (hb);have n2_:=Aside0.mk (hi);clear HK;clear HB;clear HI0;have HK:=n0_;have HB:=n1_;have HI0:=n2_;clear n0_ n1_ n2_;(try clear hb);(try clear hb2);(try clear hk);(try clear hi))|((with_reducible refine gate_callee (f:=77) rfl ?_);refine goesL_ (some 22) rfl rfl Tryd.func77 (by kernel_rfl) rfl #[.pointer (some ⟨g,0,none⟩),.int .i64 (wrap64 (t161))] rfl (by (try simp only [List.map_toArray,List.map_cons,List.map_nil]);first|done|rfl|(simp only [List.length_drop,List.length_take];rfl)|(simp (disch:=first|omega|(simp at *;omega)) only [u64_id,i64_id,u8_id];rfl)) ?_;(with_reducible refine (pack_Taker_bytes.calls g t162 t163 (wrap64 (t161)) t170 true t172 t173 w0 _ ?side1 ?side2 A16.out).mono ?_);(case side1=>repeat (first|(with_reducible first|exact HI0.out|apply IsS86.alloc|apply IsS86.drewN|apply IsS86.drew|apply IsS86.set_0|apply IsS86.set_1)|exact HI0.out));(case side2=>repeat (first|(with_reducible first|exact HB.out|apply below_alloc|apply pw_below_drewN|apply below_drew1|refine below_set ?_ (IsS86.ge HI0.out))|exact HB.out));rintro e w20 ⟨rfl,hi,hb,hk⟩;refine ⟨_,rfl,?_⟩;have n0_:=Aside0.mk (KeepBut.trans (by repeat (first|(with_reducible first|exact HK.out|apply KeepBut.set_|apply keep_drewN|apply keep_drew|apply keep_alloc)|exact HK.out)) hk (.inl rfl));have n1_:=Aside0.mk (hb);have n2_:=Aside0.mk (hi);clear HK;clear HB;clear HI0;have HK:=n0_;have HB:=n1_;have HI0:=n2_;clear n0_ n1_ n2_;(try clear hb);(try clear hb2);(try clear hk);(try clear hi)))
   go_ret
   exact ⟨by first|rfl|(simp [errW_none,errW_some] <;> rfl)|(simp [*,errW_none,errW_some] <;> rfl),by repeat (first|(with_reducible first|exact HI0.out|apply IsS86.alloc|apply IsS86.drewN|apply IsS86.drew|apply IsS86.set_0|apply IsS86.set_1)|exact HI0.out),by repeat (first|(with_reducible first|exact HB.out|apply below_alloc|apply pw_below_drewN|apply below_drew1|refine below_set ?_ (IsS86.ge HI0.out))|exact HB.out),by repeat (first|(with_reducible first|exact HK.out|apply KeepBut.set_|apply keep_drewN|apply keep_drew|apply keep_alloc)|exact HK.out)⟩
  ·replace c17:=Bool.eq_false_iff.mpr c17
   subst c17
   have H1 : (some (t170,s0_0,t173)) = some (r1,r2,r3):=by rw [if_neg (show ¬ (false = true) by decide)] at H;exact H
   clear H
   have H:=H1
   clear H1
   simp only [Option.some.injEq,Prod.mk.injEq] at H
   obtain ⟨rfl,rfl,rfl⟩:=H
   obtain ⟨HGz21,hgz21⟩:=HI0.out
   have hcz21_0:=cellS86_0 HGz21
   have hcz21_1:=cellS86_1 HGz21
   have hfz21_0:=blk_frozen HGz21 0
   have hfz21_1:=blk_frozen HGz21 1
   clear HGz21 hgz21
   go_enter Tryd.func49,Tryd.ntmps49
   go_wp2_with (first|((with_reducible refine gate_callee (f:=48) rfl ?_);refine goesL_ (some 12) rfl rfl Tryd.func48 (by kernel_rfl) rfl #[.pointer (some ⟨g,0,none⟩),.int .i64 2] rfl (by (try simp only [List.map_toArray,List.map_cons,List.map_nil]);first|done|rfl|(simp only [List.length_drop,List.length_take];rfl)|(simp (disch:=first|omega|(simp at *;omega)) only [u64_id,i64_id,u8_id];rfl)) ?_;(with_reducible refine (pack_Taker_Take.calls k g s0_0 s0_1 2 t161 t162 t163 w0 _ ?side1 ?side2 A2.out).mono ?_);(case side1=>repeat (first|(with_reducible first|exact HI0.out|apply IsS86.alloc|apply IsS86.drewN|apply IsS86.drew|apply IsS86.set_0|apply IsS86.set_1)|exact HI0.out));(case side2=>repeat (first|(with_reducible first|exact HB.out|apply below_alloc|apply pw_below_drewN|apply below_drew1|refine below_set ?_ (IsS86.ge HI0.out))|exact HB.out));rintro e w22 ⟨rfl,hi,hb,hk⟩;refine ⟨_,rfl,?_⟩;have n0_:=Aside0.mk (KeepBut.trans (by repeat (first|(with_reducible first|exact HK.out|apply KeepBut.set_|apply keep_drewN|apply keep_drew|apply keep_alloc)|exact HK.out)) hk (.inl rfl));have n1_:=Aside0.mk (hb);have n2_:=Aside0.mk (hi);clear HK;clear HB;clear HI0;have HK:=n0_;have HB:=n1_;have HI0:=n2_;clear n0_ n1_ n2_;(try clear hb);(try clear hb2);(try clear hk);(try clear hi))|((with_reducible refine gate_callee (f:=77) rfl ?_);refine goesL_ (some 22) rfl rfl Tryd.func77 (by kernel_rfl) rfl #[.pointer (some ⟨g,0,none⟩),.int .i64 (wrap64 (t161))] rfl (by (try simp only [List.map_toArray,List.map_cons,List.map_nil]);first|done|rfl|(simp only [List.length_drop,List.length_take];rfl)|(simp (disch:=first|omega|(simp at *;omega)) only [u64_id,i64_id,u8_id];rfl)) ?_;(with_reducible refine (pack_Taker_bytes.calls g t162 t163 (wrap64 (t161)) t170 false t172 t173 w0 _ ?side1 ?side2 A16.out).mono ?_);(case side1=>repeat (first|(with_reducible first|exact HI0.out|apply IsS86.alloc|apply IsS86.drewN|apply IsS86.drew|apply IsS86.set_0|apply IsS86.set_1)|exact HI0.out));(case side2=>repeat (first|(with_reducible first|exact HB.out|apply below_alloc|apply pw_below_drewN|apply below_drew1|refine below_set ?_ (IsS86.ge HI0.out))|exact HB.out));rintro e w23 ⟨rfl,hi,hb,hk⟩;refine ⟨_,rfl,?_⟩;have n0_:=Aside0.mk (KeepBut.trans (by repeat (first|(with_reducible first|exact HK.out|apply KeepBut.set_|apply keep_drewN|apply keep_drew|apply keep_alloc)|exact HK.out)) hk (.inl rfl));have n1_:=Aside0.mk (hb);have n2_:=Aside0.mk (hi);clear HK;clear HB;clear HI0;have HK:=n0_;have HB:=n1_;have HI0:=n2_;clear n0_ n1_ n2_;(try clear hb);(try clear hb2);(try clear hk);(try clear hi);obtain ⟨HGz24,hgz24⟩:=HI0.out;have hcz24_0:=cellS86_0 HGz24;have hcz24_1:=cellS86_1 HGz24;have hfz24_0:=blk_frozen HGz24 0;have hfz24_1:=blk_frozen HGz24 1;clear HGz24 hgz24))
   go_ret
   exact ⟨by first|rfl|(simp [errW_none,errW_some] <;> rfl)|(simp [*,errW_none,errW_some] <;> rfl),by repeat (first|(with_reducible first|exact HI0.out|apply IsS86.alloc|apply IsS86.drewN|apply IsS86.drew|apply IsS86.set_0|apply IsS86.set_1)|exact HI0.out),by repeat (first|(with_reducible first|exact HB.out|apply below_alloc|apply pw_below_drewN|apply below_drew1|refine below_set ?_ (IsS86.ge HI0.out))|exact HB.out),by repeat (first|(with_reducible first|exact HK.out|apply KeepBut.set_|apply keep_drewN|apply keep_drew|apply keep_alloc)|exact HK.out)⟩

/-! ### pack_Taker_End: function 50 -/
def pack_Taker_End.f (s0_0 : ByteArray) (s0_1 : Int) : Option (Int × ByteArray × Int):=if s0_1 = 0 then (if s0_0.toList = ([] : List UInt8) then (some (s0_1,s0_0,s0_1)) else (some (6,s0_0,s0_1))) else (some (s0_1,s0_0,s0_1))
set_option maxHeartbeats 8000000 in
set_option maxRecDepth 100000 in
theorem pack_Taker_End.calls (g : Nat) (s0_0 : ByteArray) (s0_1 : Int) (r1 : Int) (r2 : ByteArray) (r3 : Int) (w0 w : World) (hI : IsS86 w0 w g s0_0 s0_1) (hB : Below w0.heap.size w0 w) (h : pack_Taker_End.f s0_0 s0_1 = some (r1,r2,r3)) :
  Calls Tryd.prog 50 #[.pointer (some ⟨g,0,none⟩)] w fun e w'=>e = .returned (.int .i64 r1) ∧ IsS86 w0 w' g r2 r3 ∧ Below w0.heap.size w0 w' ∧ KeepBut w w' g none:=by
 have HI0:=Aside0.mk hI
 have HK:=Aside0.mk (KeepBut.refl w g none)
 have HL:=Aside0.mk hB.size
 clear hI
 have HW0:=Aside0.mk hB.size
 have HB:=Aside0.mk hB
 clear hB
 have H : (if s0_1 = 0 then (if s0_0.toList = ([] : List UInt8) then (some (s0_1,s0_0,s0_1)) else (some (6,s0_0,s0_1))) else (some (s0_1,s0_0,s0_1))) = some (r1,r2,r3):=h
 clear h
 by_cases c2 : s0_1 = 0
 ·rw [if_pos c2] at H
  have c2b0 : (s0_1 == 0) = true:=beq_iff_eq.mpr c2
  have c2b1 : (s0_1 != 0) = false:=bne_eq_false_iff_eq.mpr c2
  clear c2
  by_cases c3 : s0_0.toList = ([] : List UInt8)
  ·rw [if_pos c3] at H
   have c3b0 : (s0_0.toList == ([] : List UInt8)) = true:=beq_iff_eq.mpr c3
   have c3b1 : (s0_0.toList != ([] : List UInt8)) = false:=bne_eq_false_iff_eq.mpr c3
   clear c3
   simp only [Option.some.injEq,Prod.mk.injEq] at H
   obtain ⟨rfl,rfl,rfl⟩:=H
   obtain ⟨HGz4,hgz4⟩:=HI0.out
   have hcz4_0:=cellS86_0 HGz4
   have hcz4_1:=cellS86_1 HGz4
   have hfz4_0:=blk_frozen HGz4 0
   have hfz4_1:=blk_frozen HGz4 1
   clear HGz4 hgz4
   go_enter Tryd.func50,Tryd.ntmps50
   go_wp2
   go_ret
   exact ⟨by first|rfl|(simp [errW_none,errW_some] <;> rfl)|(simp [*,errW_none,errW_some] <;> rfl),by repeat (first|(with_reducible first|exact HI0.out|apply IsS86.alloc|apply IsS86.drewN|apply IsS86.drew|apply IsS86.set_0|apply IsS86.set_1)|exact HI0.out),by repeat (first|(with_reducible first|exact HB.out|apply below_alloc|apply pw_below_drewN|apply below_drew1|refine below_set ?_ (IsS86.ge HI0.out))|exact HB.out),by repeat (first|(with_reducible first|exact HK.out|apply KeepBut.set_|apply keep_drewN|apply keep_drew|apply keep_alloc)|exact HK.out)⟩
  ·rw [if_neg c3] at H
   have c3b0 : (s0_0.toList == ([] : List UInt8)) = false:=beq_eq_false_iff_ne.mpr c3
   have c3b1 : (s0_0.toList != ([] : List UInt8)) = true:=bne_iff_ne.mpr c3
   simp only [Option.some.injEq,Prod.mk.injEq] at H
   obtain ⟨rfl,rfl,rfl⟩:=H
   obtain ⟨HGz5,hgz5⟩:=HI0.out
   have hcz5_0:=cellS86_0 HGz5
   have hcz5_1:=cellS86_1 HGz5
   have hfz5_0:=blk_frozen HGz5 0
   have hfz5_1:=blk_frozen HGz5 1
   clear HGz5 hgz5
   go_enter Tryd.func50,Tryd.ntmps50
   go_wp2
   go_ret
   exact ⟨by first|rfl|(simp [errW_none,errW_some] <;> rfl)|(simp [*,errW_none,errW_some] <;> rfl),by repeat (first|(with_reducible first|exact HI0.out|apply IsS86.alloc|apply IsS86.drewN|apply IsS86.drew|apply IsS86.set_0|apply IsS86.set_1)|exact HI0.out),by repeat (first|(with_reducible first|exact HB.out|apply below_alloc|apply pw_below_drewN|apply below_drew1|refine below_set ?_ (IsS86.ge HI0.out))|exact HB.out),by repeat (first|(with_reducible first|exact HK.out|apply KeepBut.set_|apply keep_drewN|apply keep_drew|apply keep_alloc)|exact HK.out)⟩
 ·rw [if_neg c2] at H
  have c2b0 : (s0_1 == 0) = false:=beq_eq_false_iff_ne.mpr c2
  have c2b1 : (s0_1 != 0) = true:=bne_iff_ne.mpr c2
  simp only [Option.some.injEq,Prod.mk.injEq] at H
  obtain ⟨rfl,rfl,rfl⟩:=H
  obtain ⟨HGz6,hgz6⟩:=HI0.out
  have hcz6_0:=cellS86_0 HGz6
  have hcz6_1:=cellS86_1 HGz6
  have hfz6_0:=blk_frozen HGz6 0
  have hfz6_1:=blk_frozen HGz6 1
  clear HGz6 hgz6
  go_enter Tryd.func50,Tryd.ntmps50
  go_wp2
  go_ret
  exact ⟨by first|rfl|(simp [errW_none,errW_some] <;> rfl)|(simp [*,errW_none,errW_some] <;> rfl),by repeat (first|(with_reducible first|exact HI0.out|apply IsS86.alloc|apply IsS86.drewN|apply IsS86.drew|apply IsS86.set_0|apply IsS86.set_1)|exact HI0.out),by repeat (first|(with_reducible first|exact HB.out|apply below_alloc|apply pw_below_drewN|apply below_drew1|refine below_set ?_ (IsS86.ge HI0.out))|exact HB.out),by repeat (first|(with_reducible first|exact HK.out|apply KeepBut.set_|apply keep_drewN|apply keep_drew|apply keep_alloc)|exact HK.out)⟩

end Go.Proofs.YtpmbdcljphpcnaaDoor.GCk
