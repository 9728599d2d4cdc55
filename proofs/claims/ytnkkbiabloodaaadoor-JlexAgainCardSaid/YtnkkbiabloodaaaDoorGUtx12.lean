/- Written by this session's own program (wip/gen.py) out of the translation: plain Lean functions of the Go functions, and proofs that the calls come to their answers. No conditions beside those in the statements. -/
import Derived.Test.YtnkkbiabloodaaaDoorGUtx0
namespace Go.Proofs.YtnkkbiabloodaaaDoor.GUt
open Go.RowKit Go.Proofs.YtnkkbiabloodaaaDoorW.PrintWords Go.Proofs.YtnkkbiabloodaaaDoorW.PrintLast Go.Proofs.YtnkkbiabloodaaaDoorW.PrintMore
attribute [local go_sem] max2_int min2_int max_two min_two max_three min_three max_four min_four   -- for this text's walks alone
set_option linter.unusedVariables false
set_option linter.unusedSimpArgs false

/-! ### bosunref06_hex: function 53 -/
def bosunref06_hex.f (a0 : Int) : Option (Int):=if a0 < 10 then (some ((wrap64 (48 + a0)) % 256)) else (some ((wrap64 (87 + a0)) % 256))
set_option maxHeartbeats 8000000 in
set_option maxRecDepth 100000 in
theorem bosunref06_hex.calls (a0 : Int) (r : Int) (w : World) (h : bosunref06_hex.f a0 = some r) :
  Calls Tryd.prog 53 #[.int .i64 a0] w fun e w'=>e = .returned (.int .u8 r) ∧ Drawn0 w w':=by
 have H : (if a0 < 10 then (some ((wrap64 (48 + a0)) % 256)) else (some ((wrap64 (87 + a0)) % 256))) = some r:=h
 clear h
 by_cases c2 : a0 < 10
 ·rw [if_pos c2] at H
  have c2b0 : decide (a0 < 10) = true:=decide_eq_true c2
  clear c2
  obtain rfl:=Option.some.inj H
  go_enter Tryd.func53,Tryd.ntmps53
  go_wp2
  go_ret
  exact ⟨by first|rfl|(simp;done)|(simp [*];done),by repeat (first|exact Drawn0.refl _|apply Drawn0.step)⟩
 ·rw [if_neg c2] at H
  have c2b0 : decide (a0 < 10) = false:=decide_eq_false c2
  clear c2
  obtain rfl:=Option.some.inj H
  go_enter Tryd.func53,Tryd.ntmps53
  go_wp2
  go_ret
  exact ⟨by first|rfl|(simp;done)|(simp [*];done),by repeat (first|exact Drawn0.refl _|apply Drawn0.step)⟩

/-! ### bosunref06_Quote: function 45 -/
mutual
def bosunref06_Quote.l0 : Nat → ByteArray → List Int → Int → Option (ByteArray)
 | 0,_,_,_=>none
 | k + 1,x0,x3,x4=>if x4 < (x0.size : Int) then (if 0 ≤ x4 then (if (bt x0 x4) = 34 then (bosunref06_Quote.j1 k x0 x3 x4 (bt x0 x4) true) else (bosunref06_Quote.j1 k x0 x3 x4 (bt x0 x4) ((bt x0 x4) == 92))) else (none)) else (if x3.length < 140737488355328 then (some (strOfNums (x3 ++ [34]))) else (none))
def bosunref06_Quote.j1 : Nat → ByteArray → List Int → Int → Int → Bool → Option (ByteArray)
 | 0,_,_,_,_,_=>none
 | k + 1,x0,x3,x4,x5,x20=>if x20 = true then ((some (([92,x5] : List Int) : List Int)).bind fun y145=>(if x3.length + y145.length < 140737488355328 then (bosunref06_Quote.l0 k x0 (x3 ++ y145) (wrap64 (x4 + 1))) else (none))) else (if x5 = 10 then ((some (([92,110] : List Int) : List Int)).bind fun y151=>(if x3.length + y151.length < 140737488355328 then (bosunref06_Quote.l0 k x0 (x3 ++ y151) (wrap64 (x4 + 1))) else (none))) else (if x5 = 13 then ((some (([92,114] : List Int) : List Int)).bind fun y157=>(if x3.length + y157.length < 140737488355328 then (bosunref06_Quote.l0 k x0 (x3 ++ y157) (wrap64 (x4 + 1))) else (none))) else (if x5 = 9 then ((some (([92,116] : List Int) : List Int)).bind fun y163=>(if x3.length + y163.length < 140737488355328 then (bosunref06_Quote.l0 k x0 (x3 ++ y163) (wrap64 (x4 + 1))) else (none))) else (if x5 = 8 then ((some (([92,98] : List Int) : List Int)).bind fun y169=>(if x3.length + y169.length < 140737488355328 then (bosunref06_Quote.l0 k x0 (x3 ++ y169) (wrap64 (x4 + 1))) else (none))) else (if x5 = 12 then ((some (([92,102] : List Int) : List Int)).bind fun y175=>(if x3.length + y175.length < 140737488355328 then (bosunref06_Quote.l0 k x0 (x3 ++ y175) (wrap64 (x4 + 1))) else (none))) else (if x5 < 32 then ((bosunref06_hex.f (wrap64 (Int.tdiv (wrap64 (x5)) 16))).bind fun t181=>((bosunref06_hex.f (Int.tmod (wrap64 (x5)) 16)).bind fun t182=>((some (([92,117,48,48,t181,t182] : List Int) : List Int)).bind fun y183=>(if x3.length + y183.length < 140737488355328 then (bosunref06_Quote.l0 k x0 (x3 ++ y183) (wrap64 (x4 + 1))) else (none))))) else (if x3.length < 140737488355328 then (bosunref06_Quote.l0 k x0 (x3 ++ [x5]) (wrap64 (x4 + 1))) else (none))))))))
end
def bosunref06_Quote.f (k : Nat) (a0 : ByteArray) : Option (ByteArray):=bosunref06_Quote.l0 k a0 (([34] : List Int)) 0
theorem bosunref06_Quote.mono_l : ∀ k,(∀ y0 y1 y2,LeO (bosunref06_Quote.l0 k y0 y1 y2) (bosunref06_Quote.l0 (k + 1) y0 y1 y2)) ∧ (∀ y0 y1 y2 y3 y4,LeO (bosunref06_Quote.j1 k y0 y1 y2 y3 y4) (bosunref06_Quote.j1 (k + 1) y0 y1 y2 y3 y4))
 | 0=>⟨fun _ _ _ r h=>by simp [bosunref06_Quote.l0] at h,fun _ _ _ _ _ r h=>by simp [bosunref06_Quote.j1] at h⟩
 | k + 1=>by
  obtain ⟨ih0,ih1⟩:=bosunref06_Quote.mono_l k
  refine ⟨?_,?_⟩
  ·intro y0 y1 y2
   unfold bosunref06_Quote.l0
   repeat' first
   | (with_reducible exact ih0 _ _ _)
   | (with_reducible exact ih1 _ _ _ _ _)
   | (with_reducible exact LeO.refl _)
   | (with_reducible exact LeO.none _)
   | (with_reducible refine LeO.ite ?_ ?_)
   | (with_reducible refine LeO.bind ?_ (fun _=>?_))
   | exact ih0 _ _ _
   | exact ih1 _ _ _ _ _
   | exact LeO.none _
   | refine LeO.ite ?_ ?_
   | refine LeO.bind ?_ (fun _=>?_)
  ·intro y0 y1 y2 y3 y4
   unfold bosunref06_Quote.j1
   repeat' first
   | (with_reducible exact ih0 _ _ _)
   | (with_reducible exact ih1 _ _ _ _ _)
   | (with_reducible exact LeO.refl _)
   | (with_reducible exact LeO.none _)
   | (with_reducible refine LeO.ite ?_ ?_)
   | (with_reducible refine LeO.bind ?_ (fun _=>?_))
   | exact ih0 _ _ _
   | exact ih1 _ _ _ _ _
   | exact LeO.none _
   | refine LeO.ite ?_ ?_
   | refine LeO.bind ?_ (fun _=>?_)
theorem bosunref06_Quote.mono : ∀ a0 k,LeO (bosunref06_Quote.f k a0) (bosunref06_Quote.f (k + 1) a0):=by
 intro a0 k
 obtain ⟨ih0,ih1⟩:=bosunref06_Quote.mono_l k
 unfold bosunref06_Quote.f
 repeat' first
   | (with_reducible exact ih0 _ _ _)
   | (with_reducible exact ih1 _ _ _ _ _)
   | (with_reducible exact LeO.refl _)
   | (with_reducible exact LeO.none _)
   | (with_reducible refine LeO.ite ?_ ?_)
   | (with_reducible refine LeO.bind ?_ (fun _=>?_))
   | exact ih0 _ _ _
   | exact ih1 _ _ _ _ _
   | exact LeO.none _
   | refine LeO.ite ?_ ?_
   | refine LeO.bind ?_ (fun _=>?_)
set_option maxHeartbeats 8000000 in
set_option maxRecDepth 100000 in
theorem bosunref06_Quote.calls (k : Nat) (a0 : ByteArray) (r : ByteArray) (w : World) (h : bosunref06_Quote.f k a0 = some r) :
  Calls Tryd.prog 45 #[.string a0] w fun e w'=>e = .returned (.string r) ∧ Below w.heap.size w w':=by
 have HB:=Aside0.mk (Below.refl w.heap.size w)
 have H : (bosunref06_Quote.l0 k a0 (([34] : List Int)) 0) = some r:=h
 clear h
 obtain ⟨y139,hy139⟩ : ∃ y_ : List Int,y_ = (([34] : List Int)):=⟨_,rfl⟩
 replace H : (bosunref06_Quote.l0 k a0 y139 0) = some r:=by first|(rw [hy139];with_reducible exact H)|(have H2_:=(Option.bind_some _ _).symm.trans H;rw [hy139];with_reducible exact H2_)|(have H2_:=(Option.bind_some _ _).symm.trans H;with_reducible exact H2_)|with_reducible exact H|(rw [hy139];exact H)|exact H
 have Ny139:=Aside0.mk hy139
 clear hy139
 have H':=Aside0.mk H
 clear H
 go_enter Tryd.func45,Tryd.ntmps45
 go_wp2_with (first|((with_reducible refine gate_dst (N:=6) rfl ?_);refine Kd.R_lit (Kd.int .u8) _ 5 ?hg (N:=6) ?hd (xs:=([34] : List Int)) (inner:=[.int .u8 34]) (ok:=fun _=>True) (okp:=fun _=>True) ?hr ?hp (fun _ hk=>hk) trivial (Below.refl _ _) (Nat.le_refl _) (by simp) ?_;(case hd=>rfl);(case hg=>rfl);(case hr=>first|(go_simp;done)|(go_simp;rfl));(case hp=>exact (Reps.one (show Kd.M (Kd.int .u8) _ _ _ 34 [.int .u8 34] from rfl) (Reps.none _ _)));intro v140 w2 ho3 hb hg_ hnew_;clear hg_ hnew_;(first|rw [← Ny139.out] at ho3|(simp only [Int.reduceToNat] at ho3;rw [← Ny139.out] at ho3));have n0_:=Aside0.mk (Kd.R_lower ho3 (below_size (by repeat (first|(with_reducible first|exact HB.out|apply below_alloc|apply pw_below_drewN|apply below_drew1)|exact HB.out))));have n1_:=Aside0.mk (below_step (by repeat (first|(with_reducible first|exact HB.out|apply below_alloc|apply pw_below_drewN|apply below_drew1)|exact HB.out)) hb);clear HB;have HO141:=n0_;have HB:=n1_;clear n0_ n1_;clear hb ho3))
 go_loopg [3,4] k (fun kq v3 v4 w'=>∃ (x3_1 : List Int) (x4_1 : Int),v4 = .int .i64 x4_1 ∧ Aside0 (bosunref06_Quote.l0 kq a0 x3_1 x4_1 = some r) ∧ Aside0 (kq ≤ k) ∧ Aside0 (Kd.R (Kd.int .u8) 5 w' w.heap.size (fun _=>True) v3 x3_1) ∧ Aside0 (Below w.heap.size w w'))
 case atStart=>exact ⟨(y139),(0),(by first|rfl|(simp;done)|(simp [*];done)),H',⟨Nat.le_refl _⟩,⟨by (with_reducible repeat (first|apply Kd.R_alloc|apply Kd.R_drewN|apply Kd.R_drew));exact HO141.out⟩,⟨by repeat (first|(with_reducible first|exact HB.out|apply below_alloc|apply pw_below_drewN|apply below_drew1)|exact HB.out)⟩⟩
 case round =>
  clear H'
  try clear p2
  obtain ⟨x3_1,x4_1,rfl,HA,HK1,HO_3,HB⟩:=hrel
  cases gk with
  | zero=>exact absurd HA.out (by simp [bosunref06_Quote.l0])
  | succ k1 =>
   have H:=HA.out
   clear HA
   simp only [bosunref06_Quote.l0] at H
   by_cases c4 : x4_1 < (a0.size : Int)
   ·rw [if_pos c4] at H
    have c4b0 : decide (x4_1 < (a0.size : Int)) = true:=decide_eq_true c4
    clear c4
    by_cases c5 : 0 ≤ x4_1
    ·rw [if_pos c5] at H
     have c5b0 : decide (0 ≤ x4_1) = true:=decide_eq_true c5
     clear c5
     have HC7:=Aside0.mk H
     clear H
     have p6 : 0 ≤ (x4_1 : Int):=of_decide_eq_true (by first|(with_reducible assumption)|assumption)
     have q6 : x4_1 < (a0.size : Int):=of_decide_eq_true (by first|(with_reducible assumption)|assumption)
     have hx6:=bt_at a0 x4_1
     replace p6:=eq_true p6
     replace q6:=eq_true q6
     go_upto_region 7 with (fail)
     go_cut [20] (fun v20 wc=>∃ (kq : Nat) (x20_6 : Bool),v20 = .bool x20_6 ∧ Aside0 (bosunref06_Quote.j1 kq a0 x3_1 x4_1 (bt a0 x4_1) x20_6 = some r) ∧ Aside0 (kq ≤ k1) ∧ Aside0 (Kd.R (Kd.int .u8) 5 wc w.heap.size (fun _=>True) u3 x3_1) ∧ Aside0 (Below w.heap.size w wc))
     case first =>
      have H:=HC7.out
      clear HC7
      by_cases c8 : (bt a0 x4_1) = 34
      ·rw [if_pos c8] at H
       have c8b0 : ((bt a0 x4_1) == 34) = true:=beq_iff_eq.mpr c8
       have c8b1 : ((bt a0 x4_1) != 34) = false:=bne_eq_false_iff_eq.mpr c8
       clear c8
       (first|rw [c8b0]|(simp only [i64_w,i32_w];rw [c8b0])|skip)
       have H':=Aside0.mk H
       clear H
       go_wp2
       go_meet
       case rel=>exact ⟨_,(true),(by first|rfl|(simp;done)|(simp [*];done)),H',⟨by have:=HK1.out;first|omega|exact Nat.le_refl _⟩,⟨by (with_reducible repeat (first|apply Kd.R_alloc|apply Kd.R_drewN|apply Kd.R_drew));exact HO_3.out⟩,⟨by repeat (first|(with_reducible first|exact HB.out|apply below_alloc|apply pw_below_drewN|apply below_drew1)|exact HB.out)⟩⟩
      ·rw [if_neg c8] at H
       have c8b0 : ((bt a0 x4_1) == 34) = false:=beq_eq_false_iff_ne.mpr c8
       have c8b1 : ((bt a0 x4_1) != 34) = true:=bne_iff_ne.mpr c8
       (first|rw [c8b0]|(simp only [i64_w,i32_w];rw [c8b0])|skip)
       have H':=Aside0.mk H
       clear H
       go_wp2
       go_meet
       case rel=>exact ⟨_,(((bt a0 x4_1) == 92)),(by first|rfl|(simp;done)|(simp [*];done)),H',⟨by have:=HK1.out;first|omega|exact Nat.le_refl _⟩,⟨by (with_reducible repeat (first|apply Kd.R_alloc|apply Kd.R_drewN|apply Kd.R_drew));exact HO_3.out⟩,⟨by repeat (first|(with_reducible first|exact HB.out|apply below_alloc|apply pw_below_drewN|apply below_drew1)|exact HB.out)⟩⟩
     case rest =>
      clear HC7
      try clear p2
      try clear c4
      try clear c4b0
      try clear c5
      try clear c5b0
      try clear p6
      try clear q6
      try clear hx6
      try clear c8
      try clear c8b0
      try clear c8b1
      try clear p2
      try clear p6
      try clear q6
      obtain ⟨kq,x20_6,rfl,HA,HJ6,HO_3,HB⟩:=hcut
      cases kq with
      | zero=>exact absurd HA.out (by simp [bosunref06_Quote.j1])
      | succ kj6 =>
       have H:=HA.out
       clear HA
       simp only [bosunref06_Quote.j1] at H
       by_cases c9 : x20_6 = true
       ·subst c9
        have H1 : ((some (([92,(bt a0 x4_1)] : List Int) : List Int)).bind fun y145=>(if x3_1.length + y145.length < 140737488355328 then (bosunref06_Quote.l0 kj6 a0 (x3_1 ++ y145) (wrap64 (x4_1 + 1))) else (none))) = some r:=by rw [if_pos rfl] at H;exact H
        clear H
        have H:=H1
        clear H1
        obtain ⟨y145,hy145⟩ : ∃ y_ : List Int,y_ = (([92,(bt a0 x4_1)] : List Int)):=⟨_,rfl⟩
        replace H : (if x3_1.length + y145.length < 140737488355328 then (bosunref06_Quote.l0 kj6 a0 (x3_1 ++ y145) (wrap64 (x4_1 + 1))) else (none)) = some r:=by first|(rw [hy145];with_reducible exact H)|(have H2_:=(Option.bind_some _ _).symm.trans H;rw [hy145];with_reducible exact H2_)|(have H2_:=(Option.bind_some _ _).symm.trans H;with_reducible exact H2_)|with_reducible exact H|(rw [hy145];exact H)|exact H
        have Ny145:=Aside0.mk hy145
        clear hy145
        by_cases c10 : x3_1.length + y145.length < 140737488355328
        ·rw [if_pos c10] at H
         have LMc10:=Aside0.mk c10
         clear c10
         obtain ⟨y148,hy148⟩ : ∃ y_ : List Int,y_ = (x3_1 ++ y145):=⟨_,rfl⟩
         replace H : (bosunref06_Quote.l0 kj6 a0 y148 (wrap64 (x4_1 + 1))) = some r:=by first|(rw [hy148];with_reducible exact H)|(have H2_:=(Option.bind_some _ _).symm.trans H;rw [hy148];with_reducible exact H2_)|(have H2_:=(Option.bind_some _ _).symm.trans H;with_reducible exact H2_)|with_reducible exact H|(rw [hy148];exact H)|exact H
         have Ny148:=Aside0.mk hy148
         clear hy148
         have H':=Aside0.mk H
         clear H
         go_wp2_with (first|((with_reducible refine gate_dst (N:=29) rfl ?_);refine Kd.R_lit (Kd.int .u8) _ 5 ?hg (N:=29) ?hd (xs:=([92,(bt a0 x4_1)] : List Int)) (inner:=[.int .u8 92,.int .u8 (bt a0 x4_1)]) (ok:=fun _=>True) (okp:=fun _=>True) ?hr ?hp (fun _ hk=>hk) trivial (Below.refl _ _) (Nat.le_refl _) (by simp) ?_;(case hd=>rfl);(case hg=>rfl);(case hr=>first|(go_simp;done)|(go_simp;rfl));(case hp=>exact (Reps.one (show Kd.M (Kd.int .u8) _ _ _ 92 [.int .u8 92] from rfl) (Reps.one (show Kd.M (Kd.int .u8) _ _ _ (bt a0 x4_1) [.int .u8 (bt a0 x4_1)] from rfl) (Reps.none _ _))));intro v146 w11 ho12 hb hg_ hnew_;clear hg_ hnew_;(first|rw [← Ny145.out] at ho12|(simp only [Int.reduceToNat] at ho12;rw [← Ny145.out] at ho12));have n0_:=Aside0.mk (Kd.R_elder' (by (with_reducible repeat (first|apply Kd.R_alloc|apply Kd.R_drewN|apply Kd.R_drew));exact HO_3.out) (Kd.R_base ho12) hb);have n1_:=Aside0.mk (Kd.R_lower (Kd.R_new' ho12 (Kd.R_lt (by (with_reducible repeat (first|apply Kd.R_alloc|apply Kd.R_drewN|apply Kd.R_drew));exact HO_3.out))) (below_size (by repeat (first|(with_reducible first|exact HB.out|apply below_alloc|apply pw_below_drewN|apply below_drew1)|exact HB.out))));have n2_:=Aside0.mk (below_step (by repeat (first|(with_reducible first|exact HB.out|apply below_alloc|apply pw_below_drewN|apply below_drew1)|exact HB.out)) hb);clear HO_3;clear HB;have HO_3:=n0_;have HO147:=n1_;have HB:=n2_;clear n0_ n1_ n2_;clear hb ho12;obtain ⟨Ao14,co14,eo14⟩:=Kd.R_slice HO147.out;subst eo14)|((with_reducible refine gate_builtin (b:=.append) (xs:=#[.tmp 27,.tmp 29]) rfl ?_);at_builtin;refine Kd.R_append_rows (Kd.int .u8) (w0:=w) w.heap.size rfl (.tmp 27) (.tmp 29) 92 5 (.int .u8 0) 1 rfl Tryd.underlying92 info5 rfl (by decide) (by omega) u3 x3_1 y145 _ _ _ (fun k_=>some k_ ≠ (.slice Ao14 y145.length co14 : Value).ownBlock) (fun _=>False) rfl rfl ?aO ?aR (fun _ _ h=>h) (fun _ h=>h.elim) ?aF ?aB ?aS ?aL ?_;(case aR=>repeat (first|exact (Kd.R_reads' HO147.out).2.2|(with_reducible refine Kd.C_alloc ?_ _)|(with_reducible refine Kd.C_drewN ?_ _)|(with_reducible refine Kd.C_drew ?_)));(case aB=>exact (by repeat (first|(with_reducible first|exact HB.out|apply below_alloc|apply pw_below_drewN|apply below_drew1)|exact HB.out)));(case aF=>exact (fun k_ hk=>Kd.fresh' (Kd.R_lt (by (with_reducible repeat (first|apply Kd.R_alloc|apply Kd.R_drewN|apply Kd.R_drew));exact HO147.out)) k_ hk));(case aO=>exact (by (with_reducible repeat (first|apply Kd.R_alloc|apply Kd.R_drewN|apply Kd.R_drew));exact Kd.R_mono HO_3.out (fun _ hk=>hk.2)));(case aS=>exact (below_size (by repeat (first|(with_reducible first|exact HB.out|apply below_alloc|apply pw_below_drewN|apply below_drew1)|exact HB.out))));(case aL=>have:=LMc10.out;omega);intro v149 w13 ho hb hg hat;rw [← Ny148.out] at ho;have n0_:=Aside0.mk (Kd.R_after (ok:=(fun _=>True)) (by (with_reducible repeat (first|apply Kd.R_alloc|apply Kd.R_drewN|apply Kd.R_drew));exact HO147.out) hg hat);have n1_:=Aside0.mk (hb);have n2_:=Aside0.mk (ho);clear HO147;clear HB;clear HO_3;have HO147:=n0_;have HB:=n1_;have HO150:=n2_;clear n0_ n1_ n2_;clear ho hb hg hat))
         go_roundg kj6
         case measure=>have:=HK1.out;have:=HJ6.out;omega
         case rel=>exact ⟨(y148),(wrap64 (x4_1 + 1)),(by first|rfl|(simp;done)|(simp [*];done)),H',⟨by have:=HK1.out;have:=HJ6.out;omega⟩,⟨by (with_reducible repeat (first|apply Kd.R_alloc|apply Kd.R_drewN|apply Kd.R_drew));exact Kd.R_mono HO150.out (fun _ hk=>trivial)⟩,⟨by repeat (first|(with_reducible first|exact HB.out|apply below_alloc|apply pw_below_drewN|apply below_drew1)|exact HB.out)⟩⟩
        ·rw [if_neg c10] at H
         exact absurd H (by simp)
       ·replace c9:=Bool.eq_false_iff.mpr c9
        subst c9
        have H1 : (if (bt a0 x4_1) = 10 then ((some (([92,110] : List Int) : List Int)).bind fun y151=>(if x3_1.length + y151.length < 140737488355328 then (bosunref06_Quote.l0 kj6 a0 (x3_1 ++ y151) (wrap64 (x4_1 + 1))) else (none))) else (if (bt a0 x4_1) = 13 then ((some (([92,114] : List Int) : List Int)).bind fun y157=>(if x3_1.length + y157.length < 140737488355328 then (bosunref06_Quote.l0 kj6 a0 (x3_1 ++ y157) (wrap64 (x4_1 + 1))) else (none))) else (if (bt a0 x4_1) = 9 then ((some (([92,116] : List Int) : List Int)).bind fun y163=>(if x3_1.length + y163.length < 140737488355328 then (bosunref06_Quote.l0 kj6 a0 (x3_1 ++ y163) (wrap64 (x4_1 + 1))) else (none))) else (if (bt a0 x4_1) = 8 then ((some (([92,98] : List Int) : List Int)).bind fun y169=>(if x3_1.length + y169.length < 140737488355328 then (bosunref06_Quote.l0 kj6 a0 (x3_1 ++ y169) (wrap64 (x4_1 + 1))) else (none))) else (if (bt a0 x4_1) = 12 then ((some (([92,102] : List Int) : List Int)).bind fun y175=>(if x3_1.length + y175.length < 140737488355328 then (bosunref06_Quote.l0 kj6 a0 (x3_1 ++ y175) (wrap64 (x4_1 + 1))) else (none))) else (if (bt a0 x4_1) < 32 then ((bosunref06_hex.f (wrap64 (Int.tdiv (wrap64 ((bt a0 x4_1))) 16))).bind fun t181=>((bosunref06_hex.f (Int.tmod (wrap64 ((bt a0 x4_1))) 16)).bind fun t182=>((some (([92,117,48,48,t181,t182] : List Int) : List Int)).bind fun y183=>(if x3_1.length + y183.length < 140737488355328 then (bosunref06_Quote.l0 kj6 a0 (x3_1 ++ y183) (wrap64 (x4_1 + 1))) else (none))))) else (if x3_1.length < 140737488355328 then (bosunref06_Quote.l0 kj6 a0 (x3_1 ++ [(bt a0 x4_1)]) (wrap64 (x4_1 + 1))) else (none)))))))) = some r:=by rw [if_neg (show ¬ (false = true) by decide)] at H;exact H
        clear H
        have H:=H1
        clear H1
        by_cases c15 : (bt a0 x4_1) = 10
        ·rw [if_pos c15] at H
         have c15b0 : ((bt a0 x4_1) == 10) = true:=beq_iff_eq.mpr c15
         have c15b1 : ((bt a0 x4_1) != 10) = false:=bne_eq_false_iff_eq.mpr c15
         clear c15
         obtain ⟨y151,hy151⟩ : ∃ y_ : List Int,y_ = (([92,110] : List Int)):=⟨_,rfl⟩
         replace H : (if x3_1.length + y151.length < 140737488355328 then (bosunref06_Quote.l0 kj6 a0 (x3_1 ++ y151) (wrap64 (x4_1 + 1))) else (none)) = some r:=by first|(rw [hy151];with_reducible exact H)|(have H2_:=(Option.bind_some _ _).symm.trans H;rw [hy151];with_reducible exact H2_)|(have H2_:=(Option.bind_some _ _).symm.trans H;with_reducible exact H2_)|with_reducible exact H|(rw [hy151];exact H)|exact H
         have Ny151:=Aside0.mk hy151
         clear hy151
         by_cases c16 : x3_1.length + y151.length < 140737488355328
         ·rw [if_pos c16] at H
          have LMc16:=Aside0.mk c16
          clear c16
          obtain ⟨y154,hy154⟩ : ∃ y_ : List Int,y_ = (x3_1 ++ y151):=⟨_,rfl⟩
          replace H : (bosunref06_Quote.l0 kj6 a0 y154 (wrap64 (x4_1 + 1))) = some r:=by first|(rw [hy154];with_reducible exact H)|(have H2_:=(Option.bind_some _ _).symm.trans H;rw [hy154];with_reducible exact H2_)|(have H2_:=(Option.bind_some _ _).symm.trans H;with_reducible exact H2_)|with_reducible exact H|(rw [hy154];exact H)|exact H
          have Ny154:=Aside0.mk hy154
          clear hy154
          have H':=Aside0.mk H
          clear H
          go_wp2_with (first|((with_reducible refine gate_dst (N:=35) rfl ?_);refine Kd.R_lit (Kd.int .u8) _ 5 ?hg (N:=35) ?hd (xs:=([92,110] : List Int)) (inner:=[.int .u8 92,.int .u8 110]) (ok:=fun _=>True) (okp:=fun _=>True) ?hr ?hp (fun _ hk=>hk) trivial (Below.refl _ _) (Nat.le_refl _) (by simp) ?_;(case hd=>rfl);(case hg=>rfl);(case hr=>first|(go_simp;done)|(go_simp;rfl));(case hp=>exact (Reps.one (show Kd.M (Kd.int .u8) _ _ _ 92 [.int .u8 92] from rfl) (Reps.one (show Kd.M (Kd.int .u8) _ _ _ 110 [.int .u8 110] from rfl) (Reps.none _ _))));intro v152 w17 ho18 hb hg_ hnew_;clear hg_ hnew_;(first|rw [← Ny151.out] at ho18|(simp only [Int.reduceToNat] at ho18;rw [← Ny151.out] at ho18));have n0_:=Aside0.mk (Kd.R_elder' (by (with_reducible repeat (first|apply Kd.R_alloc|apply Kd.R_drewN|apply Kd.R_drew));exact HO_3.out) (Kd.R_base ho18) hb);have n1_:=Aside0.mk (Kd.R_lower (Kd.R_new' ho18 (Kd.R_lt (by (with_reducible repeat (first|apply Kd.R_alloc|apply Kd.R_drewN|apply Kd.R_drew));exact HO_3.out))) (below_size (by repeat (first|(with_reducible first|exact HB.out|apply below_alloc|apply pw_below_drewN|apply below_drew1)|exact HB.out))));have n2_:=Aside0.mk (below_step (by repeat (first|(with_reducible first|exact HB.out|apply below_alloc|apply pw_below_drewN|apply below_drew1)|exact HB.out)) hb);clear HO_3;clear HB;have HO_3:=n0_;have HO153:=n1_;have HB:=n2_;clear n0_ n1_ n2_;clear hb ho18;obtain ⟨Ao20,co20,eo20⟩:=Kd.R_slice HO153.out;subst eo20)|((with_reducible refine gate_builtin (b:=.append) (xs:=#[.tmp 34,.tmp 35]) rfl ?_);at_builtin;refine Kd.R_append_rows (Kd.int .u8) (w0:=w) w.heap.size rfl (.tmp 34) (.tmp 35) 92 5 (.int .u8 0) 1 rfl Tryd.underlying92 info5 rfl (by decide) (by omega) u3 x3_1 y151 _ _ _ (fun k_=>some k_ ≠ (.slice Ao20 y151.length co20 : Value).ownBlock) (fun _=>False) rfl rfl ?aO ?aR (fun _ _ h=>h) (fun _ h=>h.elim) ?aF ?aB ?aS ?aL ?_;(case aR=>repeat (first|exact (Kd.R_reads' HO153.out).2.2|(with_reducible refine Kd.C_alloc ?_ _)|(with_reducible refine Kd.C_drewN ?_ _)|(with_reducible refine Kd.C_drew ?_)));(case aB=>exact (by repeat (first|(with_reducible first|exact HB.out|apply below_alloc|apply pw_below_drewN|apply below_drew1)|exact HB.out)));(case aF=>exact (fun k_ hk=>Kd.fresh' (Kd.R_lt (by (with_reducible repeat (first|apply Kd.R_alloc|apply Kd.R_drewN|apply Kd.R_drew));exact HO153.out)) k_ hk));(case aO=>exact (by (with_reducible repeat (first|apply Kd.R_alloc|apply Kd.R_drewN|apply Kd.R_drew));exact Kd.R_mono HO_3.out (fun _ hk=>hk.2)));(case aS=>exact (below_size (by repeat (first|(with_reducible first|exact HB.out|apply below_alloc|apply pw_below_drewN|apply below_drew1)|exact HB.out))));(case aL=>have:=LMc16.out;omega);intro v155 w19 ho hb hg hat;rw [← Ny154.out] at ho;have n0_:=Aside0.mk (Kd.R_after (ok:=(fun _=>True)) (by (with_reducible repeat (first|apply Kd.R_alloc|apply Kd.R_drewN|apply Kd.R_drew));exact HO153.out) hg hat);have n1_:=Aside0.mk (hb);have n2_:=Aside0.mk (ho);clear HO153;clear HB;clear HO_3;have HO153:=n0_;have HB:=n1_;have HO156:=n2_;clear n0_ n1_ n2_;clear ho hb hg hat))
          go_roundg kj6
          case measure=>have:=HK1.out;have:=HJ6.out;omega
          case rel=>exact ⟨(y154),(wrap64 (x4_1 + 1)),(by first|rfl|(simp;done)|(simp [*];done)),H',⟨by have:=HK1.out;have:=HJ6.out;omega⟩,⟨by (with_reducible repeat (first|apply Kd.R_alloc|apply Kd.R_drewN|apply Kd.R_drew));exact Kd.R_mono HO156.out (fun _ hk=>trivial)⟩,⟨by repeat (first|(with_reducible first|exact HB.out|apply below_alloc|apply pw_below_drewN|apply below_drew1)|exact HB.out)⟩⟩
         ·rw [if_neg c16] at H
          exact absurd H (by simp)
        ·rw [if_neg c15] at H
         have c15b0 : ((bt a0 x4_1) == 10) = false:=beq_eq_false_iff_ne.mpr c15
         have c15b1 : ((bt a0 x4_1) != 10) = true:=bne_iff_ne.mpr c15
         by_cases c21 : (bt a0 x4_1) = 13
         ·rw [if_pos c21] at H
          have c21b0 : ((bt a0 x4_1) == 13) = true:=beq_iff_eq.mpr c21
          have c21b1 : ((bt a0 x4_1) != 13) = false:=bne_eq_false_iff_eq.mpr c21
          clear c21
          obtain ⟨y157,hy157⟩ : ∃ y_ : List Int,y_ = (([92,114] : List Int)):=⟨_,rfl⟩
          replace H : (if x3_1.length + y157.length < 140737488355328 then (bosunref06_Quote.l0 kj6 a0 (x3_1 ++ y157) (wrap64 (x4_1 + 1))) else (none)) = some r:=by first|(rw [hy157];with_reducible exact H)|(have H2_:=(Option.bind_some _ _).symm.trans H;rw [hy157];with_reducible exact H2_)|(have H2_:=(Option.bind_some _ _).symm.trans H;with_reducible exact H2_)|with_reducible exact H|(rw [hy157];exact H)|exact H
          have Ny157:=Aside0.mk hy157
          clear hy157
          by_cases c22 : x3_1.length + y157.length < 140737488355328
          ·rw [if_pos c22] at H
           have LMc22:=Aside0.mk c22
           clear c22
           obtain ⟨y160,hy160⟩ : ∃ y_ : List Int,y_ = (x3_1 ++ y157):=⟨_,rfl⟩
           replace H : (bosunref06_Quote.l0 kj6 a0 y160 (wrap64 (x4_1 + 1))) = some r:=by first|(rw [hy160];with_reducible exact H)|(have H2_:=(Option.bind_some _ _).symm.trans H;rw [hy160];with_reducible exact H2_)|(have H2_:=(Option.bind_some _ _).symm.trans H;with_reducible exact H2_)|with_reducible exact H|(rw [hy160];exact H)|exact H
           have Ny160:=Aside0.mk hy160
           clear hy160
           have H':=Aside0.mk H
           clear H
           go_wp2_with (first|((with_reducible refine gate_dst (N:=41) rfl ?_);refine Kd.R_lit (Kd.int .u8) _ 5 ?hg (N:=41) ?hd (xs:=([92,114] : List Int)) (inner:=[.int .u8 92,.int .u8 114]) (ok:=fun _=>True) (okp:=fun _=>True) ?hr ?hp (fun _ hk=>hk) trivial (Below.refl _ _) (Nat.le_refl _) (by simp) ?_;(case hd=>rfl);(case hg=>rfl);(case hr=>first|(go_simp;done)|(go_simp;rfl));(case hp=>exact (Reps.one (show Kd.M (Kd.int .u8) _ _ _ 92 [.int .u8 92] from rfl) (Reps.one (show Kd.M (Kd.int .u8) _ _ _ 114 [.int .u8 114] from rfl) (Reps.none _ _))));intro v158 w23 ho24 hb hg_ hnew_;clear hg_ hnew_;(first|rw [← Ny157.out] at ho24|(simp only [Int.reduceToNat] at ho24;rw [← Ny157.out] at ho24));have n0_:=Aside0.mk (Kd.R_elder' (by (with_reducible repeat (first|apply Kd.R_alloc|apply Kd.R_drewN|apply Kd.R_drew));exact HO_3.out) (Kd.R_base ho24) hb);have n1_:=Aside0.mk (Kd.R_lower (Kd.R_new' ho24 (Kd.R_lt (by (with_reducible repeat (first|apply Kd.R_alloc|apply Kd.R_drewN|apply Kd.R_drew));exact HO_3.out))) (below_size (by repeat (first|(with_reducible first|exact HB.out|apply below_alloc|apply pw_below_drewN|apply below_drew1)|exact HB.out))));have n2_:=Aside0.mk (below_step (by repeat (first|(with_reducible first|exact HB.out|apply below_alloc|apply pw_below_drewN|apply below_drew1)|exact HB.out)) hb);clear HO_3;clear HB;have HO_3:=n0_;have HO159:=n1_;have HB:=n2_;clear n0_ n1_ n2_;clear hb ho24;obtain ⟨Ao26,co26,eo26⟩:=Kd.R_slice HO159.out;subst eo26)|((with_reducible refine gate_builtin (b:=.append) (xs:=#[.tmp 40,.tmp 41]) rfl ?_);at_builtin;refine Kd.R_append_rows (Kd.int .u8) (w0:=w) w.heap.size rfl (.tmp 40) (.tmp 41) 92 5 (.int .u8 0) 1 rfl Tryd.underlying92 info5 rfl (by decide) (by omega) u3 x3_1 y157 _ _ _ (fun k_=>some k_ ≠ (.slice Ao26 y157.length co26 : Value).ownBlock) (fun _=>False) rfl rfl ?aO ?aR (fun _ _ h=>h) (fun _ h=>h.elim) ?aF ?aB ?aS ?aL ?_;(case aR=>repeat (first|exact (Kd.R_reads' HO159.out).2.2|(with_reducible refine Kd.C_alloc ?_ _)|(with_reducible refine Kd.C_drewN ?_ _)|(with_reducible refine Kd.C_drew ?_)));(case aB=>exact (by repeat (first|(with_reducible first|exact HB.out|apply below_alloc|apply pw_below_drewN|apply below_drew1)|exact HB.out)));(case aF=>exact (fun k_ hk=>Kd.fresh' (Kd.R_lt (by (with_reducible repeat (first|apply Kd.R_alloc|apply Kd.R_drewN|apply Kd.R_drew));exact HO159.out)) k_ hk));(case aO=>exact (by (with_reducible repeat (first|apply Kd.R_alloc|apply Kd.R_drewN|apply Kd.R_drew));exact Kd.R_mono HO_3.out (fun _ hk=>hk.2)));(case aS=>exact (below_size (by repeat (first|(with_reducible first|exact HB.out|apply below_alloc|apply pw_below_drewN|apply below_drew1)|exact HB.out))));(case aL=>have:=LMc22.out;omega);intro v161 w25 ho hb hg hat;rw [← Ny160.out] at ho;have n0_:=Aside0.mk (Kd.R_after (ok:=(fun _=>True)) (by (with_reducible repeat (first|apply Kd.R_alloc|apply Kd.R_drewN|apply Kd.R_drew));exact HO159.out) hg hat);have n1_:=Aside0.mk (hb);have n2_:=Aside0.mk (ho);clear HO159;clear HB;clear HO_3;have HO159:=n0_;have HB:=n1_;have HO162:=n2_;clear n0_ n1_ n2_;clear ho hb hg hat))
           go_roundg kj6
           case measure=>have:=HK1.out;have:=HJ6.out;omega
           case rel=>exact ⟨(y160),(wrap64 (x4_1 + 1)),(by first|rfl|(simp;done)|(simp [*];done)),H',⟨by have:=HK1.out;have:=HJ6.out;omega⟩,⟨by (with_reducible repeat (first|apply Kd.R_alloc|apply Kd.R_drewN|apply Kd.R_drew));exact Kd.R_mono HO162.out (fun _ hk=>trivial)⟩,⟨by repeat (first|(with_reducible first|exact HB.out|apply below_alloc|apply pw_below_drewN|apply below_drew1)|exact HB.out)⟩⟩
          ·rw [if_neg c22] at H
           exact absurd H (by simp)
         ·rw [if_neg c21] at H
          have c21b0 : ((bt a0 x4_1) == 13) = false:=beq_eq_false_iff_ne.mpr c21
          have c21b1 : ((bt a0 x4_1) != 13) = true:=bne_iff_ne.mpr c21
          by_cases c27 : (bt a0 x4_1) = 9
          ·rw [if_pos c27] at H
           have c27b0 : ((bt a0 x4_1) == 9) = true:=beq_iff_eq.mpr c27
           have c27b1 : ((bt a0 x4_1) != 9) = false:=bne_eq_false_iff_eq.mpr c27
           clear c27
           obtain ⟨y163,hy163⟩ : ∃ y_ : List Int,y_ = (([92,116] : List Int)):=⟨_,rfl⟩
           replace H : (if x3_1.length + y163.length < 140737488355328 then (bosunref06_Quote.l0 kj6 a0 (x3_1 ++ y163) (wrap64 (x4_1 + 1))) else (none)) = some r:=by first|(rw [hy163];with_reducible exact H)|(have H2_:=(Option.bind_some _ _).symm.trans H;rw [hy163];with_reducible exact H2_)|(have H2_:=(Option.bind_some _ _).symm.trans H;with_reducible exact H2_)|with_reducible exact H|(rw [hy163];exact H)|exact H
           have Ny163:=Aside0.mk hy163
           clear hy163
           by_cases c28 : x3_1.length + y163.length < 140737488355328
           ·rw [if_pos c28] at H
            have LMc28:=Aside0.mk c28
            clear c28
            obtain ⟨y166,hy166⟩ : ∃ y_ : List Int,y_ = (x3_1 ++ y163):=⟨_,rfl⟩
            replace H : (bosunref06_Quote.l0 kj6 a0 y166 (wrap64 (x4_1 + 1))) = some r:=by first|(rw [hy166];with_reducible exact H)|(have H2_:=(Option.bind_some _ _).symm.trans H;rw [hy166];with_reducible exact H2_)|(have H2_:=(Option.bind_some _ _).symm.trans H;with_reducible exact H2_)|with_reducible exact H|(rw [hy166];exact H)|exact H
            have Ny166:=Aside0.mk hy166
            clear hy166
            have H':=Aside0.mk H
            clear H
            go_wp2_with (first|((with_reducible refine gate_dst (N:=47) rfl ?_);refine Kd.R_lit (Kd.int .u8) _ 5 ?hg (N:=47) ?hd (xs:=([92,116] : List Int)) (inner:=[.int .u8 92,.int .u8 116]) (ok:=fun _=>True) (okp:=fun _=>True) ?hr ?hp (fun _ hk=>hk) trivial (Below.refl _ _) (Nat.le_refl _) (by simp) ?_;(case hd=>rfl);(case hg=>rfl);(case hr=>first|(go_simp;done)|(go_simp;rfl));(case hp=>exact (Reps.one (show Kd.M (Kd.int .u8) _ _ _ 92 [.int .u8 92] from rfl) (Reps.one (show Kd.M (Kd.int .u8) _ _ _ 116 [.int .u8 116] from rfl) (Reps.none _ _))));intro v164 w29 ho30 hb hg_ hnew_;clear hg_ hnew_;(first|rw [← Ny163.out] at ho30|(simp only [Int.reduceToNat] at ho30;rw [← Ny163.out] at ho30));have n0_:=Aside0.mk (Kd.R_elder' (by (with_reducible repeat (first|apply Kd.R_alloc|apply Kd.R_drewN|apply Kd.R_drew));exact HO_3.out) (Kd.R_base ho30) hb);have n1_:=Aside0.mk (Kd.R_lower (Kd.R_new' ho30 (Kd.R_lt (by (with_reducible repeat (first|apply Kd.R_alloc|apply Kd.R_drewN|apply Kd.R_drew));exact HO_3.out))) (below_size (by repeat (first|(with_reducible first|exact HB.out|apply below_alloc|apply pw_below_drewN|apply below_drew1)|exact HB.out))));have n2_:=Aside0.mk (below_step (by repeat (first|(with_reducible first|exact HB.out|apply below_alloc|apply pw_below_drewN|apply below_drew1)|exact HB.out)) hb);clear HO_3;clear HB;have HO_3:=n0_;have HO165:=n1_;have HB:=n2_;clear n0_ n1_ n2_;clear hb ho30;obtain ⟨Ao32,co32,eo32⟩:=Kd.R_slice HO165.out;subst eo32)|((with_reducible refine gate_builtin (b:=.append) (xs:=#[.tmp 46,.tmp 47]) rfl ?_);at_builtin;refine Kd.R_append_rows (Kd.int .u8) (w0:=w) w.heap.size rfl (.tmp 46) (.tmp 47) 92 5 (.int .u8 0) 1 rfl Tryd.underlying92 info5 rfl (by decide) (by omega) u3 x3_1 y163 _ _ _ (fun k_=>some k_ ≠ (.slice Ao32 y163.length co32 : Value).ownBlock) (fun _=>False) rfl rfl ?aO ?aR (fun _ _ h=>h) (fun _ h=>h.elim) ?aF ?aB ?aS ?aL ?_;(case aR=>repeat (first|exact (Kd.R_reads' HO165.out).2.2|(with_reducible refine Kd.C_alloc ?_ _)|(with_reducible refine Kd.C_drewN ?_ _)|(with_reducible refine Kd.C_drew ?_)));(case aB=>exact (by repeat (first|(with_reducible first|exact HB.out|apply below_alloc|apply pw_below_drewN|apply below_drew1)|exact HB.out)));(case aF=>exact (fun k_ hk=>Kd.fresh' (Kd.R_lt (by (with_reducible repeat (first|apply Kd.R_alloc|apply Kd.R_drewN|apply Kd.R_drew));exact HO165.out)) k_ hk));(case aO=>exact (by (with_reducible repeat (first|apply Kd.R_alloc|apply Kd.R_drewN|apply Kd.R_drew));exact Kd.R_mono HO_3.out (fun _ hk=>hk.2)));(case aS=>exact (below_size (by repeat (first|(with_reducible first|exact HB.out|apply below_alloc|apply pw_below_drewN|apply below_drew1)|exact HB.out))));(case aL=>have:=LMc28.out;omega);intro v167 w31 ho hb hg hat;rw [← Ny166.out] at ho;have n0_:=Aside0.mk (Kd.R_after (ok:=(fun _=>True)) (by (with_reducible repeat (first|apply Kd.R_alloc|apply Kd.R_drewN|apply Kd.R_drew));exact HO165.out) hg hat);have n1_:=Aside0.mk (hb);have n2_:=Aside0.mk (ho);clear HO165;clear HB;clear HO_3;have HO165:=n0_;have HB:=n1_;have HO168:=n2_;clear n0_ n1_ n2_;clear ho hb hg hat))
            go_roundg kj6
            case measure=>have:=HK1.out;have:=HJ6.out;omega
            case rel=>exact ⟨(y166),(wrap64 (x4_1 + 1)),(by first|rfl|(simp;done)|(simp [*];done)),H',⟨by have:=HK1.out;have:=HJ6.out;omega⟩,⟨by (with_reducible repeat (first|apply Kd.R_alloc|apply Kd.R_drewN|apply Kd.R_drew));exact Kd.R_mono HO168.out (fun _ hk=>trivial)⟩,⟨by repeat (first|(with_reducible first|exact HB.out|apply below_alloc|apply pw_below_drewN|apply below_drew1)|exact HB.out)⟩⟩
           ·rw [if_neg c28] at H
            exact absurd H (by simp)
          ·rw [if_neg c27] at H
           have c27b0 : ((bt a0 x4_1) == 9) = false:=beq_eq_false_iff_ne.mpr c27
           have c27b1 : ((bt a0 x4_1) != 9) = true:=bne_iff_ne.mpr c27
           by_cases c33 : (bt a0 x4_1) = 8
           ·rw [if_pos c33] at H
            have c33b0 : ((bt a0 x4_1) == 8) = true:=beq_iff_eq.mpr c33
            have c33b1 : ((bt a0 x4_1) != 8) = false:=bne_eq_false_iff_eq.mpr c33
            clear c33
            obtain ⟨y169,hy169⟩ : ∃ y_ : List Int,y_ = (([92,98] : List Int)):=⟨_,rfl⟩
            replace H : (if x3_1.length + y169.length < 140737488355328 then (bosunref06_Quote.l0 kj6 a0 (x3_1 ++ y169) (wrap64 (x4_1 + 1))) else (none)) = some r:=by first|(rw [hy169];with_reducible exact H)|(have H2_:=(Option.bind_some _ _).symm.trans H;rw [hy169];with_reducible exact H2_)|(have H2_:=(Option.bind_some _ _).symm.trans H;with_reducible exact H2_)|with_reducible exact H|(rw [hy169];exact H)|exact H
            have Ny169:=Aside0.mk hy169
            clear hy169
            by_cases c34 : x3_1.length + y169.length < 140737488355328
            ·rw [if_pos c34] at H
             have LMc34:=Aside0.mk c34
             clear c34
             obtain ⟨y172,hy172⟩ : ∃ y_ : List Int,y_ = (x3_1 ++ y169):=⟨_,rfl⟩
             replace H : (bosunref06_Quote.l0 kj6 a0 y172 (wrap64 (x4_1 + 1))) = some r:=by first|(rw [hy172];with_reducible exact H)|(have H2_:=(Option.bind_some _ _).symm.trans H;rw [hy172];with_reducible exact H2_)|(have H2_:=(Option.bind_some _ _).symm.trans H;with_reducible exact H2_)|with_reducible exact H|(rw [hy172];exact H)|exact H
             have Ny172:=Aside0.mk hy172
             clear hy172
             have H':=Aside0.mk H
             clear H
             go_wp2_with (first|((with_reducible refine gate_dst (N:=53) rfl ?_);refine Kd.R_lit (Kd.int .u8) _ 5 ?hg (N:=53) ?hd (xs:=([92,98] : List Int)) (inner:=[.int .u8 92,.int .u8 98]) (ok:=fun _=>True) (okp:=fun _=>True) ?hr ?hp (fun _ hk=>hk) trivial (Below.refl _ _) (Nat.le_refl _) (by simp) ?_;(case hd=>rfl);(case hg=>rfl);(case hr=>first|(go_simp;done)|(go_simp;rfl));(case hp=>exact (Reps.one (show Kd.M (Kd.int .u8) _ _ _ 92 [.int .u8 92] from rfl) (Reps.one (show Kd.M (Kd.int .u8) _ _ _ 98 [.int .u8 98] from rfl) (Reps.none _ _))));intro v170 w35 ho36 hb hg_ hnew_;clear hg_ hnew_;(first|rw [← Ny169.out] at ho36|(simp only [Int.reduceToNat] at ho36;rw [← Ny169.out] at ho36));have n0_:=Aside0.mk (Kd.R_elder' (by (with_reducible repeat (first|apply Kd.R_alloc|apply Kd.R_drewN|apply Kd.R_drew));exact HO_3.out) (Kd.R_base ho36) hb);have n1_:=Aside0.mk (Kd.R_lower (Kd.R_new' ho36 (Kd.R_lt (by (with_reducible repeat (first|apply Kd.R_alloc|apply Kd.R_drewN|apply Kd.R_drew));exact HO_3.out))) (below_size (by repeat (first|(with_reducible first|exact HB.out|apply below_alloc|apply pw_below_drewN|apply below_drew1)|exact HB.out))));have n2_:=Aside0.mk (below_step (by repeat (first|(with_reducible first|exact HB.out|apply below_alloc|apply pw_below_drewN|apply below_drew1)|exact HB.out)) hb);clear HO_3;clear HB;have HO_3:=n0_;have HO171:=n1_;have HB:=n2_;clear n0_ n1_ n2_;clear hb ho36;obtain ⟨Ao38,co38,eo38⟩:=Kd.R_slice HO171.out;subst eo38)|((with_reducible refine gate_builtin (b:=.append) (xs:=#[.tmp 52,.tmp 53]) rfl ?_);at_builtin;refine Kd.R_append_rows (Kd.int .u8) (w0:=w) w.heap.size rfl (.tmp 52) (.tmp 53) 92 5 (.int .u8 0) 1 rfl Tryd.underlying92 info5 rfl (by decide) (by omega) u3 x3_1 y169 _ _ _ (fun k_=>some k_ ≠ (.slice Ao38 y169.length co38 : Value).ownBlock) (fun _=>False) rfl rfl ?aO ?aR (fun _ _ h=>h) (fun _ h=>h.elim) ?aF ?aB ?aS ?aL ?_;(case aR=>repeat (first|exact (Kd.R_reads' HO171.out).2.2|(with_reducible refine Kd.C_alloc ?_ _)|(with_reducible refine Kd.C_drewN ?_ _)|(with_reducible refine Kd.C_drew ?_)));(case aB=>exact (by repeat (first|(with_reducible first|exact HB.out|apply below_alloc|apply pw_below_drewN|apply below_drew1)|exact HB.out)));(case aF=>exact (fun k_ hk=>Kd.fresh' (Kd.R_lt (by (with_reducible repeat (first|apply Kd.R_alloc|apply Kd.R_drewN|apply Kd.R_drew));exact HO171.out)) k_ hk));(case aO=>exact (by (with_reducible repeat (first|apply Kd.R_alloc|apply Kd.R_drewN|apply Kd.R_drew));exact Kd.R_mono HO_3.out (fun _ hk=>hk.2)));(case aS=>exact (below_size (by repeat (first|(with_reducible first|exact HB.out|apply below_alloc|apply pw_below_drewN|apply below_drew1)|exact HB.out))));(case aL=>have:=LMc34.out;omega);intro v173 w37 ho hb hg hat;rw [← Ny172.out] at ho;have n0_:=Aside0.mk (Kd.R_after (ok:=(fun _=>True)) (by (with_reducible repeat (first|apply Kd.R_alloc|apply Kd.R_drewN|apply Kd.R_drew));exact HO171.out) hg hat);have n1_:=Aside0.mk (hb);have n2_:=Aside0.mk (ho);clear HO171;clear HB;clear HO_3;have HO171:=n0_;have HB:=n1_;have HO174:=n2_;clear n0_ n1_ n2_;clear ho hb hg hat))
             go_roundg kj6
             case measure=>have:=HK1.out;have:=HJ6.out;omega
             case rel=>exact ⟨(y172),(wrap64 (x4_1 + 1)),(by first|rfl|(simp;done)|(simp [*];done)),H',⟨by have:=HK1.out;have:=HJ6.out;omega⟩,⟨by (with_reducible repeat (first|apply Kd.R_alloc|apply Kd.R_drewN|apply Kd.R_drew));exact Kd.R_mono HO174.out (fun _ hk=>trivial)⟩,⟨by repeat (first|(with_reducible first|exact HB.out|apply below_alloc|apply pw_below_drewN|apply below_drew1)|exact HB.out)⟩⟩
            ·rw [if_neg c34] at H
             exact absurd H (by simp)
           ·rw [if_neg c33] at H
            have c33b0 : ((bt a0 x4_1) == 8) = false:=beq_eq_false_iff_ne.mpr c33
            have c33b1 : ((bt a0 x4_1) != 8) = true:=bne_iff_ne.mpr c33
            by_cases c39 : (bt a0 x4_1) = 12
            ·rw [if_pos c39] at H
             have c39b0 : ((bt a0 x4_1) == 12) = true:=beq_iff_eq.mpr c39
             have c39b1 : ((bt a0 x4_1) != 12) = false:=bne_eq_false_iff_eq.mpr c39
             clear c39
             obtain ⟨y175,hy175⟩ : ∃ y_ : List Int,y_ = (([92,102] : List Int)):=⟨_,rfl⟩
             replace H : (if x3_1.length + y175.length < 140737488355328 then (bosunref06_Quote.l0 kj6 a0 (x3_1 ++ y175) (wrap64 (x4_1 + 1))) else (none)) = some r:=by first|(rw [hy175];with_reducible exact H)|(have H2_:=(Option.bind_some _ _).symm.trans H;rw [hy175];with_reducible exact H2_)|(have H2_:=(Option.bind_some _ _).symm.trans H;with_reducible exact H2_)|with_reducible exact H|(rw [hy175];exact H)|exact H
             have Ny175:=Aside0.mk hy175
             clear hy175
             by_cases c40 : x3_1.length + y175.length < 140737488355328
             ·rw [if_pos c40] at H
              have LMc40:=Aside0.mk c40
              clear c40
              obtain ⟨y178,hy178⟩ : ∃ y_ : List Int,y_ = (x3_1 ++ y175):=⟨_,rfl⟩
              replace H : (bosunref06_Quote.l0 kj6 a0 y178 (wrap64 (x4_1 + 1))) = some r:=by first|(rw [hy178];with_reducible exact H)|(have H2_:=(Option.bind_some _ _).symm.trans H;rw [hy178];with_reducible exact H2_)|(have H2_:=(Option.bind_some _ _).symm.trans H;with_reducible exact H2_)|with_reducible exact H|(rw [hy178];exact H)|exact H
              have Ny178:=Aside0.mk hy178
              clear hy178
              have H':=Aside0.mk H
              clear H
              go_wp2_with (first|((with_reducible refine gate_dst (N:=59) rfl ?_);refine Kd.R_lit (Kd.int .u8) _ 5 ?hg (N:=59) ?hd (xs:=([92,102] : List Int)) (inner:=[.int .u8 92,.int .u8 102]) (ok:=fun _=>True) (okp:=fun _=>True) ?hr ?hp (fun _ hk=>hk) trivial (Below.refl _ _) (Nat.le_refl _) (by simp) ?_;(case hd=>rfl);(case hg=>rfl);(case hr=>first|(go_simp;done)|(go_simp;rfl));(case hp=>exact (Reps.one (show Kd.M (Kd.int .u8) _ _ _ 92 [.int .u8 92] from rfl) (Reps.one (show Kd.M (Kd.int .u8) _ _ _ 102 [.int .u8 102] from rfl) (Reps.none _ _))));intro v176 w41 ho42 hb hg_ hnew_;clear hg_ hnew_;(first|rw [← Ny175.out] at ho42|(simp only [Int.reduceToNat] at ho42;rw [← Ny175.out] at ho42));have n0_:=Aside0.mk (Kd.R_elder' (by (with_reducible repeat (first|apply Kd.R_alloc|apply Kd.R_drewN|apply Kd.R_drew));exact HO_3.out) (Kd.R_base ho42) hb);have n1_:=Aside0.mk (Kd.R_lower (Kd.R_new' ho42 (Kd.R_lt (by (with_reducible repeat (first|apply Kd.R_alloc|apply Kd.R_drewN|apply Kd.R_drew));exact HO_3.out))) (below_size (by repeat (first|(with_reducible first|exact HB.out|apply below_alloc|apply pw_below_drewN|apply below_drew1)|exact HB.out))));have n2_:=Aside0.mk (below_step (by repeat (first|(with_reducible first|exact HB.out|apply below_alloc|apply pw_below_drewN|apply below_drew1)|exact HB.out)) hb);clear HO_3;clear HB;have HO_3:=n0_;have HO177:=n1_;have HB:=n2_;clear n0_ n1_ n2_;clear hb ho42;obtain ⟨Ao44,co44,eo44⟩:=Kd.R_slice HO177.out;subst eo44)|((with_reducible refine gate_builtin (b:=.append) (xs:=#[.tmp 58,.tmp 59]) rfl ?_);at_builtin;refine Kd.R_append_rows (Kd.int .u8) (w0:=w) w.heap.size rfl (.tmp 58) (.tmp 59) 92 5 (.int .u8 0) 1 rfl Tryd.underlying92 info5 rfl (by decide) (by omega) u3 x3_1 y175 _ _ _ (fun k_=>some k_ ≠ (.slice Ao44 y175.length co44 : Value).ownBlock) (fun _=>False) rfl rfl ?aO ?aR (fun _ _ h=>h) (fun _ h=>h.elim) ?aF ?aB ?aS ?aL ?_;(case aR=>repeat (first|exact (Kd.R_reads' HO177.out).2.2|(with_reducible refine Kd.C_alloc ?_ _)|(with_reducible refine Kd.C_drewN ?_ _)|(with_reducible refine Kd.C_drew ?_)));(case aB=>exact (by repeat (first|(with_reducible first|exact HB.out|apply below_alloc|apply pw_below_drewN|apply below_drew1)|exact HB.out)));(case aF=>exact (fun k_ hk=>Kd.fresh' (Kd.R_lt (by (with_reducible repeat (first|apply Kd.R_alloc|apply Kd.R_drewN|apply Kd.R_drew));exact HO177.out)) k_ hk));(case aO=>exact (by (with_reducible repeat (first|apply Kd.R_alloc|apply Kd.R_drewN|apply Kd.R_drew));exact Kd.R_mono HO_3.out (fun _ hk=>hk.2)));(case aS=>exact (below_size (by repeat (first|(with_reducible first|exact HB.out|apply below_alloc|apply pw_below_drewN|apply below_drew1)|exact HB.out))));(case aL=>have:=LMc40.out;omega);intro v179 w43 ho hb hg hat;rw [← Ny178.out] at ho;have n0_:=Aside0.mk (Kd.R_after (ok:=(fun _=>True)) (by (with_reducible repeat (first|apply Kd.R_alloc|apply Kd.R_drewN|apply Kd.R_drew));exact HO177.out) hg hat);have n1_:=Aside0.mk (hb);have n2_:=Aside0.mk (ho);clear HO177;clear HB;clear HO_3;have HO177:=n0_;have HB:=n1_;have HO180:=n2_;clear n0_ n1_ n2_;clear ho hb hg hat))
              go_roundg kj6
              case measure=>have:=HK1.out;have:=HJ6.out;omega
              case rel=>exact ⟨(y178),(wrap64 (x4_1 + 1)),(by first|rfl|(simp;done)|(simp [*];done)),H',⟨by have:=HK1.out;have:=HJ6.out;omega⟩,⟨by (with_reducible repeat (first|apply Kd.R_alloc|apply Kd.R_drewN|apply Kd.R_drew));exact Kd.R_mono HO180.out (fun _ hk=>trivial)⟩,⟨by repeat (first|(with_reducible first|exact HB.out|apply below_alloc|apply pw_below_drewN|apply below_drew1)|exact HB.out)⟩⟩
             ·rw [if_neg c40] at H
              exact absurd H (by simp)
            ·rw [if_neg c39] at H
             have c39b0 : ((bt a0 x4_1) == 12) = false:=beq_eq_false_iff_ne.mpr c39
             have c39b1 : ((bt a0 x4_1) != 12) = true:=bne_iff_ne.mpr c39
             by_cases c45 : (bt a0 x4_1) < 32
             ·rw [if_pos c45] at H
              have c45b0 : decide ((bt a0 x4_1) < 32) = true:=decide_eq_true c45
              clear c45
              replace H:=Option.bind_eq_some_iff.mp H
              obtain ⟨t181,A460,H⟩:=H
              replace H : ((bosunref06_hex.f (Int.tmod (wrap64 ((bt a0 x4_1))) 16)).bind fun t182=>((some (([92,117,48,48,t181,t182] : List Int) : List Int)).bind fun y183=>(if x3_1.length + y183.length < 140737488355328 then (bosunref06_Quote.l0 kj6 a0 (x3_1 ++ y183) (wrap64 (x4_1 + 1))) else (none)))) = some r:=H
              have A46:=Aside0.mk A460
              clear A460
              replace H:=Option.bind_eq_some_iff.mp H
              obtain ⟨t182,A470,H⟩:=H
              replace H : ((some (([92,117,48,48,t181,t182] : List Int) : List Int)).bind fun y183=>(if x3_1.length + y183.length < 140737488355328 then (bosunref06_Quote.l0 kj6 a0 (x3_1 ++ y183) (wrap64 (x4_1 + 1))) else (none))) = some r:=H
              have A47:=Aside0.mk A470
              clear A470
              obtain ⟨y183,hy183⟩ : ∃ y_ : List Int,y_ = (([92,117,48,48,t181,t182] : List Int)):=⟨_,rfl⟩
              replace H : (if x3_1.length + y183.length < 140737488355328 then (bosunref06_Quote.l0 kj6 a0 (x3_1 ++ y183) (wrap64 (x4_1 + 1))) else (none)) = some r:=by first|(rw [hy183];with_reducible exact H)|(have H2_:=(Option.bind_some _ _).symm.trans H;rw [hy183];with_reducible exact H2_)|(have H2_:=(Option.bind_some _ _).symm.trans H;with_reducible exact H2_)|with_reducible exact H|(rw [hy183];exact H)|exact H
              have Ny183:=Aside0.mk hy183
              clear hy183
              by_cases c48 : x3_1.length + y183.length < 140737488355328
              ·rw [if_pos c48] at H
               have LMc48:=Aside0.mk c48
               clear c48
               obtain ⟨y186,hy186⟩ : ∃ y_ : List Int,y_ = (x3_1 ++ y183):=⟨_,rfl⟩
               replace H : (bosunref06_Quote.l0 kj6 a0 y186 (wrap64 (x4_1 + 1))) = some r:=by first|(rw [hy186];with_reducible exact H)|(have H2_:=(Option.bind_some _ _).symm.trans H;rw [hy186];with_reducible exact H2_)|(have H2_:=(Option.bind_some _ _).symm.trans H;with_reducible exact H2_)|with_reducible exact H|(rw [hy186];exact H)|exact H
               have Ny186:=Aside0.mk hy186
               clear hy186
               have H':=Aside0.mk H
               clear H
               go_wp2_with (first|((with_reducible refine gate_callee (f:=53) rfl ?_);refine goesL_ (some 68) rfl rfl Tryd.func53 (by kernel_rfl) rfl #[.int .i64 (wrap64 (Int.tdiv (wrap64 ((bt a0 x4_1))) 16))] rfl (by (try simp only [List.map_toArray,List.map_cons,List.map_nil]);first|done|rfl|(simp only [List.length_drop,List.length_take];rfl)|(simp (disch:=first|omega|(simp at *;omega)) only [u64_id,i64_id,u8_id];rfl)) ?_;(with_reducible refine (bosunref06_hex.calls (wrap64 (Int.tdiv (wrap64 ((bt a0 x4_1))) 16)) t181 _ A46.out).mono ?_);rintro e w' ⟨rfl,⟨nd,rfl⟩⟩;refine ⟨_,rfl,?_⟩)|((with_reducible refine gate_callee (f:=53) rfl ?_);refine goesL_ (some 72) rfl rfl Tryd.func53 (by kernel_rfl) rfl #[.int .i64 (Int.tmod (wrap64 ((bt a0 x4_1))) 16)] rfl (by (try simp only [List.map_toArray,List.map_cons,List.map_nil]);first|done|rfl|(simp only [List.length_drop,List.length_take];rfl)|(simp (disch:=first|omega|(simp at *;omega)) only [u64_id,i64_id,u8_id];rfl)) ?_;(with_reducible refine (bosunref06_hex.calls (Int.tmod (wrap64 ((bt a0 x4_1))) 16) t182 _ A47.out).mono ?_);rintro e w' ⟨rfl,⟨nd,rfl⟩⟩;refine ⟨_,rfl,?_⟩)|((with_reducible refine gate_dst (N:=73) rfl ?_);refine Kd.R_lit (Kd.int .u8) _ 5 ?hg (N:=73) ?hd (xs:=([92,117,48,48,t181,t182] : List Int)) (inner:=[.int .u8 92,.int .u8 117,.int .u8 48,.int .u8 48,.int .u8 t181,.int .u8 t182]) (ok:=fun _=>True) (okp:=fun _=>True) ?hr ?hp (fun _ hk=>hk) trivial (Below.refl _ _) (Nat.le_refl _) (by simp) ?_;(case hd=>rfl);(case hg=>rfl);(case hr=>first|(go_simp;done)|(go_simp;rfl));(case hp=>exact (Reps.one (show Kd.M (Kd.int .u8) _ _ _ 92 [.int .u8 92] from rfl) (Reps.one (show Kd.M (Kd.int .u8) _ _ _ 117 [.int .u8 117] from rfl) (Reps.one (show Kd.M (Kd.int .u8) _ _ _ 48 [.int .u8 48] from rfl) (Reps.one (show Kd.M (Kd.int .u8) _ _ _ 48 [.int .u8 48] from rfl) (Reps.one (show Kd.M (Kd.int .u8) _ _ _ t181 [.int .u8 t181] from rfl) (Reps.one (show Kd.M (Kd.int .u8) _ _ _ t182 [.int .u8 t182] from rfl) (Reps.none _ _))))))));intro v184 w49 ho50 hb hg_ hnew_;clear hg_ hnew_;(first|rw [← Ny183.out] at ho50|(simp only [Int.reduceToNat] at ho50;rw [← Ny183.out] at ho50));have n0_:=Aside0.mk (Kd.R_elder' (by (with_reducible repeat (first|apply Kd.R_alloc|apply Kd.R_drewN|apply Kd.R_drew));exact HO_3.out) (Kd.R_base ho50) hb);have n1_:=Aside0.mk (Kd.R_lower (Kd.R_new' ho50 (Kd.R_lt (by (with_reducible repeat (first|apply Kd.R_alloc|apply Kd.R_drewN|apply Kd.R_drew));exact HO_3.out))) (below_size (by repeat (first|(with_reducible first|exact HB.out|apply below_alloc|apply pw_below_drewN|apply below_drew1)|exact HB.out))));have n2_:=Aside0.mk (below_step (by repeat (first|(with_reducible first|exact HB.out|apply below_alloc|apply pw_below_drewN|apply below_drew1)|exact HB.out)) hb);clear HO_3;clear HB;have HO_3:=n0_;have HO185:=n1_;have HB:=n2_;clear n0_ n1_ n2_;clear hb ho50;obtain ⟨Ao52,co52,eo52⟩:=Kd.R_slice HO185.out;subst eo52)|((with_reducible refine gate_builtin (b:=.append) (xs:=#[.tmp 64,.tmp 73]) rfl ?_);at_builtin;refine Kd.R_append_rows (Kd.int .u8) (w0:=w) w.heap.size rfl (.tmp 64) (.tmp 73) 92 5 (.int .u8 0) 1 rfl Tryd.underlying92 info5 rfl (by decide) (by omega) u3 x3_1 y183 _ _ _ (fun k_=>some k_ ≠ (.slice Ao52 y183.length co52 : Value).ownBlock) (fun _=>False) rfl rfl ?aO ?aR (fun _ _ h=>h) (fun _ h=>h.elim) ?aF ?aB ?aS ?aL ?_;(case aR=>repeat (first|exact (Kd.R_reads' HO185.out).2.2|(with_reducible refine Kd.C_alloc ?_ _)|(with_reducible refine Kd.C_drewN ?_ _)|(with_reducible refine Kd.C_drew ?_)));(case aB=>exact (by repeat (first|(with_reducible first|exact HB.out|apply below_alloc|apply pw_below_drewN|apply below_drew1)|exact HB.out)));(case aF=>exact (fun k_ hk=>Kd.fresh' (Kd.R_lt (by (with_reducible repeat (first|apply Kd.R_alloc|apply Kd.R_drewN|apply Kd.R_drew));exact HO185.out)) k_ hk));(case aO=>exact (by (with_reducible repeat (first|apply Kd.R_alloc|apply Kd.R_drewN|apply Kd.R_drew));exact Kd.R_mono HO_3.out (fun _ hk=>hk.2)));(case aS=>exact (below_size (by repeat (first|(with_reducible first|exact HB.out|apply below_alloc|apply pw_below_drewN|apply below_drew1)|exact HB.out))));(case aL=>have:=LMc48.out;omega);intro v187 w51 ho hb hg hat;rw [← Ny186.out] at ho;have n0_:=Aside0.mk (Kd.R_after (ok:=(fun _=>True)) (by (with_reducible repeat (first|apply Kd.R_alloc|apply Kd.R_drewN|apply Kd.R_drew));exact HO185.out) hg hat);have n1_:=Aside0.mk (hb);have n2_:=Aside0.mk (ho);clear HO185;clear HB;clear HO_3;have HO185:=n0_;have HB:=n1_;have HO188:=n2_;clear n0_ n1_ n2_;clear ho hb hg hat))
               go_roundg kj6
               case measure=>have:=HK1.out;have:=HJ6.out;omega
               case rel=>exact ⟨(y186),(wrap64 (x4_1 + 1)),(by first|rfl|(simp;done)|(simp [*];done)),H',⟨by have:=HK1.out;have:=HJ6.out;omega⟩,⟨by (with_reducible repeat (first|apply Kd.R_alloc|apply Kd.R_drewN|apply Kd.R_drew));exact Kd.R_mono HO188.out (fun _ hk=>trivial)⟩,⟨by repeat (first|(with_reducible first|exact HB.out|apply below_alloc|apply pw_below_drewN|apply below_drew1)|exact HB.out)⟩⟩
              ·rw [if_neg c48] at H
               exact absurd H (by simp)
             ·rw [if_neg c45] at H
              have c45b0 : decide ((bt a0 x4_1) < 32) = false:=decide_eq_false c45
              clear c45
              by_cases c53 : x3_1.length < 140737488355328
              ·rw [if_pos c53] at H
               have LMc53:=Aside0.mk c53
               clear c53
               obtain ⟨y189,hy189⟩ : ∃ y_ : List Int,y_ = (x3_1 ++ [(bt a0 x4_1)]):=⟨_,rfl⟩
               replace H : (bosunref06_Quote.l0 kj6 a0 y189 (wrap64 (x4_1 + 1))) = some r:=by first|(rw [hy189];with_reducible exact H)|(have H2_:=(Option.bind_some _ _).symm.trans H;rw [hy189];with_reducible exact H2_)|(have H2_:=(Option.bind_some _ _).symm.trans H;with_reducible exact H2_)|with_reducible exact H|(rw [hy189];exact H)|exact H
               have Ny189:=Aside0.mk hy189
               clear hy189
               have H':=Aside0.mk H
               clear H
               go_wp2_with (first|((with_reducible refine gate_builtin (b:=.append) (xs:=#[.tmp 16,.tmp 18]) rfl ?_);at_builtin;refine Kd.R_append (Kd.int .u8) (w0:=w) w.heap.size rfl (.tmp 16) (.tmp 18) 92 5 (.int .u8 0) 1 rfl Tryd.underlying92 info5 rfl (by decide) (by omega) u3 x3_1 (bt a0 x4_1) [.int .u8 (bt a0 x4_1)] (fun _=>True) (fun _=>False) rfl rfl ?aP (fun _ hk=>hk.elim) ?aF ?aO ?aB ?aS ?aL ?_;(case aP=>exact rfl);(case aB=>exact (by repeat (first|(with_reducible first|exact HB.out|apply below_alloc|apply pw_below_drewN|apply below_drew1)|exact HB.out)));(case aF=>exact (fun _ _=>trivial));(case aO=>exact (by (with_reducible repeat (first|apply Kd.R_alloc|apply Kd.R_drewN|apply Kd.R_drew));exact HO_3.out));(case aS=>exact (below_size (by repeat (first|(with_reducible first|exact HB.out|apply below_alloc|apply pw_below_drewN|apply below_drew1)|exact HB.out))));(case aL=>have:=LMc53.out;omega);intro v190 w54 ho hb hg hat;rw [← Ny189.out] at ho;have n0_:=Aside0.mk (hb);have n1_:=Aside0.mk (ho);clear HB;clear HO_3;have HB:=n0_;have HO191:=n1_;clear n0_ n1_;clear ho hb hg hat))
               go_roundg kj6
               case measure=>have:=HK1.out;have:=HJ6.out;omega
               case rel=>exact ⟨(y189),(wrap64 (x4_1 + 1)),(by first|rfl|(simp;done)|(simp [*];done)),H',⟨by have:=HK1.out;have:=HJ6.out;omega⟩,⟨by (with_reducible repeat (first|apply Kd.R_alloc|apply Kd.R_drewN|apply Kd.R_drew));exact HO191.out⟩,⟨by repeat (first|(with_reducible first|exact HB.out|apply below_alloc|apply pw_below_drewN|apply below_drew1)|exact HB.out)⟩⟩
              ·rw [if_neg c53] at H
               exact absurd H (by simp)
    ·rw [if_neg c5] at H
     exact absurd H (by simp)
   ·rw [if_neg c4] at H
    have c4b0 : decide (x4_1 < (a0.size : Int)) = false:=decide_eq_false c4
    clear c4
    by_cases c55 : x3_1.length < 140737488355328
    ·rw [if_pos c55] at H
     have LMc55:=Aside0.mk c55
     clear c55
     obtain ⟨y142,hy142⟩ : ∃ y_ : List Int,y_ = (x3_1 ++ [34]):=⟨_,rfl⟩
     replace H : (some (strOfNums y142)) = some r:=by first|(rw [hy142];with_reducible exact H)|(have H2_:=(Option.bind_some _ _).symm.trans H;rw [hy142];with_reducible exact H2_)|(have H2_:=(Option.bind_some _ _).symm.trans H;with_reducible exact H2_)|with_reducible exact H|(rw [hy142];exact H)|exact H
     have Ny142:=Aside0.mk hy142
     clear hy142
     obtain rfl:=Option.some.inj H
     go_wp2_with (first|((with_reducible refine gate_builtin (b:=.append) (xs:=#[.tmp 75,.tmp 76]) rfl ?_);at_builtin;refine Kd.R_append (Kd.int .u8) (w0:=w) w.heap.size rfl (.tmp 75) (.tmp 76) 92 5 (.int .u8 0) 1 rfl Tryd.underlying92 info5 rfl (by decide) (by omega) u3 x3_1 34 [.int .u8 34] (fun _=>True) (fun _=>False) rfl rfl ?aP (fun _ hk=>hk.elim) ?aF ?aO ?aB ?aS ?aL ?_;(case aP=>exact rfl);(case aB=>exact (by repeat (first|(with_reducible first|exact HB.out|apply below_alloc|apply pw_below_drewN|apply below_drew1)|exact HB.out)));(case aF=>exact (fun _ _=>trivial));(case aO=>exact (by (with_reducible repeat (first|apply Kd.R_alloc|apply Kd.R_drewN|apply Kd.R_drew));exact HO_3.out));(case aS=>exact (below_size (by repeat (first|(with_reducible first|exact HB.out|apply below_alloc|apply pw_below_drewN|apply below_drew1)|exact HB.out))));(case aL=>have:=LMc55.out;omega);intro v143 w56 ho hb hg hat;rw [← Ny142.out] at ho;have n0_:=Aside0.mk (hb);have n1_:=Aside0.mk (ho);clear HB;clear HO_3;have HB:=n0_;have HO144:=n1_;clear n0_ n1_;clear ho hb hg hat;have hcv57:=own_string (P:=Tryd.prog) Tryd.underlying92 Tryd.underlying5 Tryd.underlying9 (Kd.own_of_R HO144.out)))
     go_ret
     exact ⟨by first|rfl|(simp [errW_none,errW_some] <;> rfl)|(simp [*,errW_none,errW_some] <;> rfl),by repeat (first|(with_reducible first|exact HB.out|apply below_alloc|apply pw_below_drewN|apply below_drew1)|exact HB.out)⟩
    ·rw [if_neg c55] at H
     exact absurd H (by simp)

/-! ### bosunlaw07_decimal: function 46 -/
mutual
def bosunlaw07_decimal.l0 : Nat → Int → ByteArray → Int → Option (ByteArray)
 | 0,_,_,_=>none
 | k + 1,x0,x3,x4=>if x4 = 0 then (bosunlaw07_decimal.j1 k x0 x3 x4 (x3.toList == ([] : List UInt8))) else (bosunlaw07_decimal.j1 k x0 x3 x4 true)
def bosunlaw07_decimal.j1 : Nat → Int → ByteArray → Int → Bool → Option (ByteArray)
 | 0,_,_,_,_=>none
 | k + 1,x0,x3,x4,x12=>if x12 = true then (if (Int.tmod x4 10) < 0 then ((some (([(wrap64 (48 + (wrap64 (-(Int.tmod x4 10))))) % 256] : List Int) : List Int)).bind fun y192=>(if (strOfNums y192).size + x3.size ≤ 9223372036854775807 then (bosunlaw07_decimal.l0 k x0 ((strOfNums y192) ++ x3) (wrap64 (Int.tdiv x4 10))) else (none))) else ((some (([(wrap64 (48 + (Int.tmod x4 10))) % 256] : List Int) : List Int)).bind fun y195=>(if (strOfNums y195).size + x3.size ≤ 9223372036854775807 then (bosunlaw07_decimal.l0 k x0 ((strOfNums y195) ++ x3) (wrap64 (Int.tdiv x4 10))) else (none)))) else (if x0 < 0 then (if 1 + x3.size ≤ 9223372036854775807 then (some ((⟨#[45]⟩ : ByteArray) ++ x3)) else (none)) else (some x3))
end
def bosunlaw07_decimal.f (k : Nat) (a0 : Int) : Option (ByteArray):=bosunlaw07_decimal.l0 k a0 (⟨#[]⟩ : ByteArray) a0
theorem bosunlaw07_decimal.mono_l : ∀ k,(∀ y0 y1 y2,LeO (bosunlaw07_decimal.l0 k y0 y1 y2) (bosunlaw07_decimal.l0 (k + 1) y0 y1 y2)) ∧ (∀ y0 y1 y2 y3,LeO (bosunlaw07_decimal.j1 k y0 y1 y2 y3) (bosunlaw07_decimal.j1 (k + 1) y0 y1 y2 y3))
 | 0=>⟨fun _ _ _ r h=>by simp [bosunlaw07_decimal.l0] at h,fun _ _ _ _ r h=>by simp [bosunlaw07_decimal.j1] at h⟩
 | k + 1=>by
  obtain ⟨ih0,ih1⟩:=bosunlaw07_decimal.mono_l k
  refine ⟨?_,?_⟩
  ·intro y0 y1 y2
   unfold bosunlaw07_decimal.l0
   repeat' first
   | (with_reducible exact ih0 _ _ _)
   | (with_reducible exact ih1 _ _ _ _)
   | (with_reducible exact LeO.refl _)
   | (with_reducible exact LeO.none _)
   | (with_reducible refine LeO.ite ?_ ?_)
   | (with_reducible refine LeO.bind ?_ (fun _=>?_))
   | exact ih0 _ _ _
   | exact ih1 _ _ _ _
   | exact LeO.none _
   | refine LeO.ite ?_ ?_
   | refine LeO.bind ?_ (fun _=>?_)
  ·intro y0 y1 y2 y3
   unfold bosunlaw07_decimal.j1
   repeat' first
   | (with_reducible exact ih0 _ _ _)
   | (with_reducible exact ih1 _ _ _ _)
   | (with_reducible exact LeO.refl _)
   | (with_reducible exact LeO.none _)
   | (with_reducible refine LeO.ite ?_ ?_)
   | (with_reducible refine LeO.bind ?_ (fun _=>?_))
   | exact ih0 _ _ _
   | exact ih1 _ _ _ _
   | exact LeO.none _
   | refine LeO.ite ?_ ?_
   | refine LeO.bind ?_ (fun _=>?_)
theorem bosunlaw07_decimal.mono : ∀ a0 k,LeO (bosunlaw07_decimal.f k a0) (bosunlaw07_decimal.f (k + 1) a0):=by
 intro a0 k
 obtain ⟨ih0,ih1⟩:=bosunlaw07_decimal.mono_l k
 unfold bosunlaw07_decimal.f
 repeat' first
   | (with_reducible exact ih0 _ _ _)
   | (with_reducible exact ih1 _ _ _ _)
   | (with_reducible exact LeO.refl _)
   | (with_reducible exact LeO.none _)
   | (with_reducible refine LeO.ite ?_ ?_)
   | (with_reducible refine LeO.bind ?_ (fun _=>?_))
   | exact ih0 _ _ _
   | exact ih1 _ _ _ _
   | exact LeO.none _
   | refine LeO.ite ?_ ?_
   | refine LeO.bind ?_ (fun _=>?_)
set_option maxHeartbeats 8000000 in
set_option maxRecDepth 100000 in
theorem bosunlaw07_decimal.calls (k : Nat) (a0 : Int) (r : ByteArray) (w : World) (h : bosunlaw07_decimal.f k a0 = some r) :
  Calls Tryd.prog 46 #[.int .i64 a0] w fun e w'=>e = .returned (.string r) ∧ Below w.heap.size w w':=by
 have HB:=Aside0.mk (Below.refl w.heap.size w)
 have H : (bosunlaw07_decimal.l0 k a0 (⟨#[]⟩ : ByteArray) a0) = some r:=h
 clear h
 have H':=Aside0.mk H
 clear H
 go_enter Tryd.func46,Tryd.ntmps46
 go_wp2
 go_loopg [3,4] k (fun kq v3 v4 w'=>∃ (x3_1 : ByteArray) (x4_1 : Int),v3 = .string x3_1 ∧ v4 = .int .i64 x4_1 ∧ Aside0 (bosunlaw07_decimal.l0 kq a0 x3_1 x4_1 = some r) ∧ Aside0 (kq ≤ k) ∧ Aside0 (Below w.heap.size w w'))
 case atStart=>exact ⟨((⟨#[]⟩ : ByteArray)),(a0),(by first|rfl|(simp;done)|(simp [*];done)),(by first|rfl|(simp;done)|(simp [*];done)),H',⟨Nat.le_refl _⟩,⟨by repeat (first|(with_reducible first|exact HB.out|apply below_alloc|apply pw_below_drewN|apply below_drew1)|exact HB.out)⟩⟩
 case round =>
  clear H'
  obtain ⟨x3_1,x4_1,rfl,rfl,HA,HK1,HB⟩:=hrel
  cases gk with
  | zero=>exact absurd HA.out (by simp [bosunlaw07_decimal.l0])
  | succ k1 =>
   have H:=HA.out
   clear HA
   simp only [bosunlaw07_decimal.l0] at H
   have HC2:=Aside0.mk H
   clear H
   go_upto_region 3 with (fail)
   go_cut [12] (fun v12 wc=>∃ (kq : Nat) (x12_1 : Bool),v12 = .bool x12_1 ∧ Aside0 (bosunlaw07_decimal.j1 kq a0 x3_1 x4_1 x12_1 = some r) ∧ Aside0 (kq ≤ k1) ∧ Aside0 (Below w.heap.size w wc))
   case first =>
    have H:=HC2.out
    clear HC2
    by_cases c3 : x4_1 = 0
    ·rw [if_pos c3] at H
     have c3b0 : (x4_1 == 0) = true:=beq_iff_eq.mpr c3
     have c3b1 : (x4_1 != 0) = false:=bne_eq_false_iff_eq.mpr c3
     clear c3
     (first|rw [c3b0]|(simp only [i64_w,i32_w];rw [c3b0])|skip)
     have H':=Aside0.mk H
     clear H
     go_wp2
     go_meet
     case rel=>exact ⟨_,((x3_1.toList == ([] : List UInt8))),(by first|rfl|(simp;done)|(simp [*];done)),H',⟨by have:=HK1.out;first|omega|exact Nat.le_refl _⟩,⟨by repeat (first|(with_reducible first|exact HB.out|apply below_alloc|apply pw_below_drewN|apply below_drew1)|exact HB.out)⟩⟩
    ·rw [if_neg c3] at H
     have c3b0 : (x4_1 == 0) = false:=beq_eq_false_iff_ne.mpr c3
     have c3b1 : (x4_1 != 0) = true:=bne_iff_ne.mpr c3
     (first|rw [c3b0]|(simp only [i64_w,i32_w];rw [c3b0])|skip)
     have H':=Aside0.mk H
     clear H
     go_wp2
     go_meet
     case rel=>exact ⟨_,(true),(by first|rfl|(simp;done)|(simp [*];done)),H',⟨by have:=HK1.out;first|omega|exact Nat.le_refl _⟩,⟨by repeat (first|(with_reducible first|exact HB.out|apply below_alloc|apply pw_below_drewN|apply below_drew1)|exact HB.out)⟩⟩
   case rest =>
    clear HC2
    try clear p2
    try clear c3
    try clear c3b0
    try clear c3b1
    obtain ⟨kq,x12_1,rfl,HA,HJ1,HB⟩:=hcut
    cases kq with
    | zero=>exact absurd HA.out (by simp [bosunlaw07_decimal.j1])
    | succ kj1 =>
     have H:=HA.out
     clear HA
     simp only [bosunlaw07_decimal.j1] at H
     by_cases c4 : x12_1 = true
     ·subst c4
      have H1 : (if (Int.tmod x4_1 10) < 0 then ((some (([(wrap64 (48 + (wrap64 (-(Int.tmod x4_1 10))))) % 256] : List Int) : List Int)).bind fun y192=>(if (strOfNums y192).size + x3_1.size ≤ 9223372036854775807 then (bosunlaw07_decimal.l0 kj1 a0 ((strOfNums y192) ++ x3_1) (wrap64 (Int.tdiv x4_1 10))) else (none))) else ((some (([(wrap64 (48 + (Int.tmod x4_1 10))) % 256] : List Int) : List Int)).bind fun y195=>(if (strOfNums y195).size + x3_1.size ≤ 9223372036854775807 then (bosunlaw07_decimal.l0 kj1 a0 ((strOfNums y195) ++ x3_1) (wrap64 (Int.tdiv x4_1 10))) else (none)))) = some r:=by rw [if_pos rfl] at H;exact H
      clear H
      have H:=H1
      clear H1
      by_cases c5 : (Int.tmod x4_1 10) < 0
      ·rw [if_pos c5] at H
       have c5b0 : decide ((Int.tmod x4_1 10) < 0) = true:=decide_eq_true c5
       clear c5
       obtain ⟨y192,hy192⟩ : ∃ y_ : List Int,y_ = (([(wrap64 (48 + (wrap64 (-(Int.tmod x4_1 10))))) % 256] : List Int)):=⟨_,rfl⟩
       replace H : (if (strOfNums y192).size + x3_1.size ≤ 9223372036854775807 then (bosunlaw07_decimal.l0 kj1 a0 ((strOfNums y192) ++ x3_1) (wrap64 (Int.tdiv x4_1 10))) else (none)) = some r:=by first|(rw [hy192];with_reducible exact H)|(have H2_:=(Option.bind_some _ _).symm.trans H;rw [hy192];with_reducible exact H2_)|(have H2_:=(Option.bind_some _ _).symm.trans H;with_reducible exact H2_)|with_reducible exact H|(rw [hy192];exact H)|exact H
       have Ny192:=Aside0.mk hy192
       clear hy192
       by_cases c6 : (strOfNums y192).size + x3_1.size ≤ 9223372036854775807
       ·rw [if_pos c6] at H
        have c6b0:=eq_true c6
        have c6b1 : decide ((strOfNums y192).size + x3_1.size ≤ 9223372036854775807) = true:=decide_eq_true c6
        try have c6b2 : (9223372036854775807 < (strOfNums y192).size + x3_1.size) = False:=eq_false (Nat.not_lt.2 c6)
        have H':=Aside0.mk H
        clear H
        go_wp2_with (first|((with_reducible refine gate_dst (N:=24) rfl ?_);refine Kd.R_lit (Kd.int .u8) _ 5 ?hg (N:=24) ?hd (xs:=([(wrap64 (48 + (wrap64 (-(Int.tmod x4_1 10))))) % 256] : List Int)) (inner:=[.int .u8 ((wrap64 (48 + (wrap64 (-(Int.tmod x4_1 10))))) % 256)]) (ok:=fun _=>True) (okp:=fun _=>True) ?hr ?hp (fun _ hk=>hk) trivial (Below.refl _ _) (Nat.le_refl _) (by simp) ?_;(case hd=>rfl);(case hg=>rfl);(case hr=>first|(go_simp;done)|(go_simp;rfl));(case hp=>exact (Reps.one (show Kd.M (Kd.int .u8) _ _ _ ((wrap64 (48 + (wrap64 (-(Int.tmod x4_1 10))))) % 256) [.int .u8 ((wrap64 (48 + (wrap64 (-(Int.tmod x4_1 10))))) % 256)] from rfl) (Reps.none _ _)));intro v193 w7 ho8 hb hg_ hnew_;clear hg_ hnew_;(first|rw [← Ny192.out] at ho8|(simp only [Int.reduceToNat] at ho8;rw [← Ny192.out] at ho8));have n0_:=Aside0.mk (Kd.R_lower ho8 (below_size (by repeat (first|(with_reducible first|exact HB.out|apply below_alloc|apply pw_below_drewN|apply below_drew1)|exact HB.out))));have n1_:=Aside0.mk (below_step (by repeat (first|(with_reducible first|exact HB.out|apply below_alloc|apply pw_below_drewN|apply below_drew1)|exact HB.out)) hb);clear HB;have HO194:=n0_;have HB:=n1_;clear n0_ n1_;clear hb ho8;have hcv9:=own_string (P:=Tryd.prog) Tryd.underlying92 Tryd.underlying5 Tryd.underlying9 (Kd.own_of_R HO194.out)))
        go_roundg kj1
        case measure=>have:=HK1.out;have:=HJ1.out;omega
        case rel=>exact ⟨((strOfNums y192) ++ x3_1),(wrap64 (Int.tdiv x4_1 10)),(by first|rfl|(simp;done)|(simp [*];done)),(by first|rfl|(simp;done)|(simp [*];done)),H',⟨by have:=HK1.out;have:=HJ1.out;omega⟩,⟨by repeat (first|(with_reducible first|exact HB.out|apply below_alloc|apply pw_below_drewN|apply below_drew1)|exact HB.out)⟩⟩
       ·rw [if_neg c6] at H
        exact absurd H (by simp)
      ·rw [if_neg c5] at H
       have c5b0 : decide ((Int.tmod x4_1 10) < 0) = false:=decide_eq_false c5
       clear c5
       obtain ⟨y195,hy195⟩ : ∃ y_ : List Int,y_ = (([(wrap64 (48 + (Int.tmod x4_1 10))) % 256] : List Int)):=⟨_,rfl⟩
       replace H : (if (strOfNums y195).size + x3_1.size ≤ 9223372036854775807 then (bosunlaw07_decimal.l0 kj1 a0 ((strOfNums y195) ++ x3_1) (wrap64 (Int.tdiv x4_1 10))) else (none)) = some r:=by first|(rw [hy195];with_reducible exact H)|(have H2_:=(Option.bind_some _ _).symm.trans H;rw [hy195];with_reducible exact H2_)|(have H2_:=(Option.bind_some _ _).symm.trans H;with_reducible exact H2_)|with_reducible exact H|(rw [hy195];exact H)|exact H
       have Ny195:=Aside0.mk hy195
       clear hy195
       by_cases c10 : (strOfNums y195).size + x3_1.size ≤ 9223372036854775807
       ·rw [if_pos c10] at H
        have c10b0:=eq_true c10
        have c10b1 : decide ((strOfNums y195).size + x3_1.size ≤ 9223372036854775807) = true:=decide_eq_true c10
        try have c10b2 : (9223372036854775807 < (strOfNums y195).size + x3_1.size) = False:=eq_false (Nat.not_lt.2 c10)
        have H':=Aside0.mk H
        clear H
        go_wp2_with (first|((with_reducible refine gate_dst (N:=24) rfl ?_);refine Kd.R_lit (Kd.int .u8) _ 5 ?hg (N:=24) ?hd (xs:=([(wrap64 (48 + (Int.tmod x4_1 10))) % 256] : List Int)) (inner:=[.int .u8 ((wrap64 (48 + (Int.tmod x4_1 10))) % 256)]) (ok:=fun _=>True) (okp:=fun _=>True) ?hr ?hp (fun _ hk=>hk) trivial (Below.refl _ _) (Nat.le_refl _) (by simp) ?_;(case hd=>rfl);(case hg=>rfl);(case hr=>first|(go_simp;done)|(go_simp;rfl));(case hp=>exact (Reps.one (show Kd.M (Kd.int .u8) _ _ _ ((wrap64 (48 + (Int.tmod x4_1 10))) % 256) [.int .u8 ((wrap64 (48 + (Int.tmod x4_1 10))) % 256)] from rfl) (Reps.none _ _)));intro v196 w11 ho12 hb hg_ hnew_;clear hg_ hnew_;(first|rw [← Ny195.out] at ho12|(simp only [Int.reduceToNat] at ho12;rw [← Ny195.out] at ho12));have n0_:=Aside0.mk (Kd.R_lower ho12 (below_size (by repeat (first|(with_reducible first|exact HB.out|apply below_alloc|apply pw_below_drewN|apply below_drew1)|exact HB.out))));have n1_:=Aside0.mk (below_step (by repeat (first|(with_reducible first|exact HB.out|apply below_alloc|apply pw_below_drewN|apply below_drew1)|exact HB.out)) hb);clear HB;have HO197:=n0_;have HB:=n1_;clear n0_ n1_;clear hb ho12;have hcv13:=own_string (P:=Tryd.prog) Tryd.underlying92 Tryd.underlying5 Tryd.underlying9 (Kd.own_of_R HO197.out)))
        go_roundg kj1
        case measure=>have:=HK1.out;have:=HJ1.out;omega
        case rel=>exact ⟨((strOfNums y195) ++ x3_1),(wrap64 (Int.tdiv x4_1 10)),(by first|rfl|(simp;done)|(simp [*];done)),(by first|rfl|(simp;done)|(simp [*];done)),H',⟨by have:=HK1.out;have:=HJ1.out;omega⟩,⟨by repeat (first|(with_reducible first|exact HB.out|apply below_alloc|apply pw_below_drewN|apply below_drew1)|exact HB.out)⟩⟩
       ·rw [if_neg c10] at H
        exact absurd H (by simp)
     ·replace c4:=Bool.eq_false_iff.mpr c4
      subst c4
      have H1 : (if a0 < 0 then (if 1 + x3_1.size ≤ 9223372036854775807 then (some ((⟨#[45]⟩ : ByteArray) ++ x3_1)) else (none)) else (some x3_1)) = some r:=by rw [if_neg (show ¬ (false = true) by decide)] at H;exact H
      clear H
      have H:=H1
      clear H1
      by_cases c14 : a0 < 0
      ·rw [if_pos c14] at H
       have c14b0 : decide (a0 < 0) = true:=decide_eq_true c14
       clear c14
       by_cases c15 : 1 + x3_1.size ≤ 9223372036854775807
       ·rw [if_pos c15] at H
        have c15b0:=eq_true c15
        have c15b1 : decide (1 + x3_1.size ≤ 9223372036854775807) = true:=decide_eq_true c15
        try have c15b2 : (9223372036854775807 < 1 + x3_1.size) = False:=eq_false (Nat.not_lt.2 c15)
        obtain rfl:=Option.some.inj H
        go_wp2
        go_ret
        exact ⟨by first|rfl|(simp [errW_none,errW_some] <;> rfl)|(simp [*,errW_none,errW_some] <;> rfl),by repeat (first|(with_reducible first|exact HB.out|apply below_alloc|apply pw_below_drewN|apply below_drew1)|exact HB.out)⟩
       ·rw [if_neg c15] at H
        exact absurd H (by simp)
      ·rw [if_neg c14] at H
       have c14b0 : decide (a0 < 0) = false:=decide_eq_false c14
       clear c14
       obtain rfl:=Option.some.inj H
       go_wp2
       go_ret
       exact ⟨by first|rfl|(simp [errW_none,errW_some] <;> rfl)|(simp [*,errW_none,errW_some] <;> rfl),by repeat (first|(with_reducible first|exact HB.out|apply below_alloc|apply pw_below_drewN|apply below_drew1)|exact HB.out)⟩

/-! ### bosunlaw07_show: function 29 -/
def bosunlaw07_show.f (k : Nat) (a0_0 : Int) (a0_1 : ByteArray) (a0_2 : Int) (a0_3 : Int) : Option (ByteArray):=if a0_0 = 6 then ((bosunref06_Quote.f k a0_1).bind fun t199=>(some t199)) else (if a0_0 = 10 then ((bosunlaw07_decimal.f k a0_2).bind fun t200=>(some t200)) else (if a0_0 = 11 then (some (⟨#[]⟩ : ByteArray)) else ((some (([(⟨#[123]⟩ : ByteArray),(⟨#[125]⟩ : ByteArray),(⟨#[91]⟩ : ByteArray),(⟨#[93]⟩ : ByteArray),(⟨#[58]⟩ : ByteArray),(⟨#[44]⟩ : ByteArray),(⟨#[]⟩ : ByteArray),(⟨#[110,117,108,108]⟩ : ByteArray),(⟨#[116,114,117,101]⟩ : ByteArray),(⟨#[102,97,108,115,101]⟩ : ByteArray)] : List ByteArray) : List ByteArray)).bind fun y201=>(if 0 ≤ a0_0 then (if a0_0 < (y201.length : Int) then (some (rdOf ByteArray.empty y201 a0_0)) else (none)) else (none)))))
theorem bosunlaw07_show.mono : ∀ a0 a1 a2 a3 k,LeO (bosunlaw07_show.f k a0 a1 a2 a3) (bosunlaw07_show.f (k + 1) a0 a1 a2 a3):=by
 intro a0 a1 a2 a3 k
 unfold bosunlaw07_show.f
 repeat' first
   | (with_reducible exact bosunlaw07_decimal.mono _ _)
   | (with_reducible exact bosunref06_Quote.mono _ _)
   | (with_reducible exact LeO.refl _)
   | (with_reducible exact LeO.none _)
   | (with_reducible refine LeO.ite ?_ ?_)
   | (with_reducible refine LeO.bind ?_ (fun _=>?_))
   | exact bosunlaw07_decimal.mono _ _
   | exact bosunref06_Quote.mono _ _
   | exact LeO.none _
   | refine LeO.ite ?_ ?_
   | refine LeO.bind ?_ (fun _=>?_)
set_option maxHeartbeats 8000000 in
set_option maxRecDepth 100000 in
theorem bosunlaw07_show.calls (k : Nat) (a0_0 : Int) (a0_1 : ByteArray) (a0_2 : Int) (a0_3 : Int) (r : ByteArray) (w : World) (h : bosunlaw07_show.f k a0_0 a0_1 a0_2 a0_3 = some r) :
  Calls Tryd.prog 29 #[.agg #[.int .i64 a0_0,.string a0_1,.int .i64 a0_2,.int .i64 a0_3]] w fun e w'=>e = .returned (.string r) ∧ Below w.heap.size w w':=by
 have hu72:=Tryd.underlying72
 have HB:=Aside0.mk (Below.refl w.heap.size w)
 have H : (if a0_0 = 6 then ((bosunref06_Quote.f k a0_1).bind fun t199=>(some t199)) else (if a0_0 = 10 then ((bosunlaw07_decimal.f k a0_2).bind fun t200=>(some t200)) else (if a0_0 = 11 then (some (⟨#[]⟩ : ByteArray)) else ((some (([(⟨#[123]⟩ : ByteArray),(⟨#[125]⟩ : ByteArray),(⟨#[91]⟩ : ByteArray),(⟨#[93]⟩ : ByteArray),(⟨#[58]⟩ : ByteArray),(⟨#[44]⟩ : ByteArray),(⟨#[]⟩ : ByteArray),(⟨#[110,117,108,108]⟩ : ByteArray),(⟨#[116,114,117,101]⟩ : ByteArray),(⟨#[102,97,108,115,101]⟩ : ByteArray)] : List ByteArray) : List ByteArray)).bind fun y201=>(if 0 ≤ a0_0 then (if a0_0 < (y201.length : Int) then (some (rdOf ByteArray.empty y201 a0_0)) else (none)) else (none)))))) = some r:=h
 clear h
 by_cases c2 : a0_0 = 6
 ·rw [if_pos c2] at H
  have c2b0 : (a0_0 == 6) = true:=beq_iff_eq.mpr c2
  have c2b1 : (a0_0 != 6) = false:=bne_eq_false_iff_eq.mpr c2
  clear c2
  replace H:=Option.bind_eq_some_iff.mp H
  obtain ⟨t199,A30,H⟩:=H
  replace H : (some t199) = some r:=H
  have A3:=Aside0.mk A30
  clear A30
  obtain rfl:=Option.some.inj H
  go_enter Tryd.func29,Tryd.ntmps29
  go_wp2_with (first|((with_reducible refine gate_dst (N:=1) rfl ?_);refine box_event ?hg (N:=1) ?hd (cs:=#[.int .i64 a0_0,.string a0_1,.int .i64 a0_2,.int .i64 a0_3]) (t:=72) ?hr ?_;(case hd=>rfl);(case hg=>rfl);(case hr=>first|(go_simp;done)|(go_simp;rfl));intro gb198 hg w4 hbox hb;have n0_:=Aside0.mk (below_step (by repeat (first|(with_reducible first|exact HB.out|apply below_alloc|apply pw_below_drewN|apply below_drew1)|exact HB.out)) hb);have n1_:=Aside0.mk (hbox);have n2_:=Aside0.mk ((by rw [hg];exact (below_size (by repeat (first|(with_reducible first|exact HB.out|apply below_alloc|apply pw_below_drewN|apply below_drew1)|exact HB.out))) : w.heap.size ≤ gb198));have n3_:=Aside0.mk ((by rw [hg];exact (below_size (by repeat (first|(with_reducible first|exact HB.out|apply below_alloc|apply pw_below_drewN|apply below_drew1)|exact HB.out))) : w.heap.size ≤ gb198));clear HB;have HB:=n0_;have BK198:=n1_;have GW198:=n2_;have GE198:=n3_;clear n0_ n1_ n2_ n3_;clear hb hbox hg;have hcz5_0 : w4.cell? ⟨gb198,0,none⟩ = some (.int .i64 a0_0):=(blk_cell BK198.out 0).trans rfl;have hcz5_1 : w4.cell? ⟨gb198,1,none⟩ = some (.string a0_1):=(blk_cell BK198.out 1).trans rfl;have hcz5_2 : w4.cell? ⟨gb198,2,none⟩ = some (.int .i64 a0_2):=(blk_cell BK198.out 2).trans rfl;have hcz5_3 : w4.cell? ⟨gb198,3,none⟩ = some (.int .i64 a0_3):=(blk_cell BK198.out 3).trans rfl;have hfz5_0:=blk_frozen BK198.out 0;have hfz5_1:=blk_frozen BK198.out 1;have hfz5_2:=blk_frozen BK198.out 2;have hfz5_3:=blk_frozen BK198.out 3)|((with_reducible refine gate_callee (f:=45) rfl ?_);refine goesL_ (some 9) rfl rfl Tryd.func45 (by kernel_rfl) rfl #[.string a0_1] rfl (by (try simp only [List.map_toArray,List.map_cons,List.map_nil]);first|done|rfl|(simp only [List.length_drop,List.length_take];rfl)|(simp (disch:=first|omega|(simp at *;omega)) only [u64_id,i64_id,u8_id];rfl)) ?_;(with_reducible refine (bosunref06_Quote.calls k a0_1 t199 _ A3.out).mono ?_);rintro e w6 ⟨rfl,hb⟩;refine ⟨_,rfl,?_⟩;have n0_:=Aside0.mk (blk_below (g:=gb198) (o:=.cells #[.int .i64 a0_0,.string a0_1,.int .i64 a0_2,.int .i64 a0_3] 72 (0,0)) (by (with_reducible repeat (first|apply blk_drewN|apply blk_drew|apply blk_alloc));exact BK198.out) hb);have n1_:=Aside0.mk (below_step (by repeat (first|(with_reducible first|exact HB.out|apply below_alloc|apply pw_below_drewN|apply below_drew1|refine below_set ?_ GE198.out)|exact HB.out)) hb);clear BK198;clear HB;have BK198:=n0_;have HB:=n1_;clear n0_ n1_;(try clear hb);(try clear hb2);(try clear hk);(try clear hi)))
  go_ret
  exact ⟨by first|rfl|(simp [errW_none,errW_some] <;> rfl)|(simp [*,errW_none,errW_some] <;> rfl),by repeat (first|(with_reducible first|exact HB.out|apply below_alloc|apply pw_below_drewN|apply below_drew1|refine below_set ?_ GE198.out)|exact HB.out)⟩
 ·rw [if_neg c2] at H
  have c2b0 : (a0_0 == 6) = false:=beq_eq_false_iff_ne.mpr c2
  have c2b1 : (a0_0 != 6) = true:=bne_iff_ne.mpr c2
  by_cases c7 : a0_0 = 10
  ·rw [if_pos c7] at H
   have c7b0 : (a0_0 == 10) = true:=beq_iff_eq.mpr c7
   have c7b1 : (a0_0 != 10) = false:=bne_eq_false_iff_eq.mpr c7
   clear c7
   replace H:=Option.bind_eq_some_iff.mp H
   obtain ⟨t200,A80,H⟩:=H
   replace H : (some t200) = some r:=H
   have A8:=Aside0.mk A80
   clear A80
   obtain rfl:=Option.some.inj H
   go_enter Tryd.func29,Tryd.ntmps29
   go_wp2_with (first|((with_reducible refine gate_dst (N:=1) rfl ?_);refine box_event ?hg (N:=1) ?hd (cs:=#[.int .i64 a0_0,.string a0_1,.int .i64 a0_2,.int .i64 a0_3]) (t:=72) ?hr ?_;(case hd=>rfl);(case hg=>rfl);(case hr=>first|(go_simp;done)|(go_simp;rfl));intro gb198 hg w9 hbox hb;have n0_:=Aside0.mk (below_step (by repeat (first|(with_reducible first|exact HB.out|apply below_alloc|apply pw_below_drewN|apply below_drew1)|exact HB.out)) hb);have n1_:=Aside0.mk (hbox);have n2_:=Aside0.mk ((by rw [hg];exact (below_size (by repeat (first|(with_reducible first|exact HB.out|apply below_alloc|apply pw_below_drewN|apply below_drew1)|exact HB.out))) : w.heap.size ≤ gb198));have n3_:=Aside0.mk ((by rw [hg];exact (below_size (by repeat (first|(with_reducible first|exact HB.out|apply below_alloc|apply pw_below_drewN|apply below_drew1)|exact HB.out))) : w.heap.size ≤ gb198));clear HB;have HB:=n0_;have BK198:=n1_;have GW198:=n2_;have GE198:=n3_;clear n0_ n1_ n2_ n3_;clear hb hbox hg;have hcz10_0 : w9.cell? ⟨gb198,0,none⟩ = some (.int .i64 a0_0):=(blk_cell BK198.out 0).trans rfl;have hcz10_1 : w9.cell? ⟨gb198,1,none⟩ = some (.string a0_1):=(blk_cell BK198.out 1).trans rfl;have hcz10_2 : w9.cell? ⟨gb198,2,none⟩ = some (.int .i64 a0_2):=(blk_cell BK198.out 2).trans rfl;have hcz10_3 : w9.cell? ⟨gb198,3,none⟩ = some (.int .i64 a0_3):=(blk_cell BK198.out 3).trans rfl;have hfz10_0:=blk_frozen BK198.out 0;have hfz10_1:=blk_frozen BK198.out 1;have hfz10_2:=blk_frozen BK198.out 2;have hfz10_3:=blk_frozen BK198.out 3)|((with_reducible refine gate_callee (f:=46) rfl ?_);refine goesL_ (some 14) rfl rfl Tryd.func46 (by kernel_rfl) rfl #[.int .i64 a0_2] rfl (by (try simp only [List.map_toArray,List.map_cons,List.map_nil]);first|done|rfl|(simp only [List.length_drop,List.length_take];rfl)|(simp (disch:=first|omega|(simp at *;omega)) only [u64_id,i64_id,u8_id];rfl)) ?_;(with_reducible refine (bosunlaw07_decimal.calls k a0_2 t200 _ A8.out).mono ?_);rintro e w11 ⟨rfl,hb⟩;refine ⟨_,rfl,?_⟩;have n0_:=Aside0.mk (blk_below (g:=gb198) (o:=.cells #[.int .i64 a0_0,.string a0_1,.int .i64 a0_2,.int .i64 a0_3] 72 (0,0)) (by (with_reducible repeat (first|apply blk_drewN|apply blk_drew|apply blk_alloc));exact BK198.out) hb);have n1_:=Aside0.mk (below_step (by repeat (first|(with_reducible first|exact HB.out|apply below_alloc|apply pw_below_drewN|apply below_drew1|refine below_set ?_ GE198.out)|exact HB.out)) hb);clear BK198;clear HB;have BK198:=n0_;have HB:=n1_;clear n0_ n1_;(try clear hb);(try clear hb2);(try clear hk);(try clear hi)))
   go_ret
   exact ⟨by first|rfl|(simp [errW_none,errW_some] <;> rfl)|(simp [*,errW_none,errW_some] <;> rfl),by repeat (first|(with_reducible first|exact HB.out|apply below_alloc|apply pw_below_drewN|apply below_drew1|refine below_set ?_ GE198.out)|exact HB.out)⟩
  ·rw [if_neg c7] at H
   have c7b0 : (a0_0 == 10) = false:=beq_eq_false_iff_ne.mpr c7
   have c7b1 : (a0_0 != 10) = true:=bne_iff_ne.mpr c7
   by_cases c12 : a0_0 = 11
   ·rw [if_pos c12] at H
    have c12b0 : (a0_0 == 11) = true:=beq_iff_eq.mpr c12
    have c12b1 : (a0_0 != 11) = false:=bne_eq_false_iff_eq.mpr c12
    clear c12
    obtain rfl:=Option.some.inj H
    go_enter Tryd.func29,Tryd.ntmps29
    go_wp2_with (first|((with_reducible refine gate_dst (N:=1) rfl ?_);refine box_event ?hg (N:=1) ?hd (cs:=#[.int .i64 a0_0,.string a0_1,.int .i64 a0_2,.int .i64 a0_3]) (t:=72) ?hr ?_;(case hd=>rfl);(case hg=>rfl);(case hr=>first|(go_simp;done)|(go_simp;rfl));intro gb198 hg w13 hbox hb;have n0_:=Aside0.mk (below_step (by repeat (first|(with_reducible first|exact HB.out|apply below_alloc|apply pw_below_drewN|apply below_drew1)|exact HB.out)) hb);have n1_:=Aside0.mk (hbox);have n2_:=Aside0.mk ((by rw [hg];exact (below_size (by repeat (first|(with_reducible first|exact HB.out|apply below_alloc|apply pw_below_drewN|apply below_drew1)|exact HB.out))) : w.heap.size ≤ gb198));have n3_:=Aside0.mk ((by rw [hg];exact (below_size (by repeat (first|(with_reducible first|exact HB.out|apply below_alloc|apply pw_below_drewN|apply below_drew1)|exact HB.out))) : w.heap.size ≤ gb198));clear HB;have HB:=n0_;have BK198:=n1_;have GW198:=n2_;have GE198:=n3_;clear n0_ n1_ n2_ n3_;clear hb hbox hg;have hcz14_0 : w13.cell? ⟨gb198,0,none⟩ = some (.int .i64 a0_0):=(blk_cell BK198.out 0).trans rfl;have hcz14_1 : w13.cell? ⟨gb198,1,none⟩ = some (.string a0_1):=(blk_cell BK198.out 1).trans rfl;have hcz14_2 : w13.cell? ⟨gb198,2,none⟩ = some (.int .i64 a0_2):=(blk_cell BK198.out 2).trans rfl;have hcz14_3 : w13.cell? ⟨gb198,3,none⟩ = some (.int .i64 a0_3):=(blk_cell BK198.out 3).trans rfl;have hfz14_0:=blk_frozen BK198.out 0;have hfz14_1:=blk_frozen BK198.out 1;have hfz14_2:=blk_frozen BK198.out 2;have hfz14_3:=blk_frozen BK198.out 3))
    go_ret
    exact ⟨by first|rfl|(simp [errW_none,errW_some] <;> rfl)|(simp [*,errW_none,errW_some] <;> rfl),by repeat (first|(with_reducible first|exact HB.out|apply below_alloc|apply pw_below_drewN|apply below_drew1|refine below_set ?_ GE198.out)|exact HB.out)⟩
   ·rw [if_neg c12] at H
    have c12b0 : (a0_0 == 11) = false:=beq_eq_false_iff_ne.mpr c12
    have c12b1 : (a0_0 != 11) = true:=bne_iff_ne.mpr c12
    obtain ⟨y201,hy201⟩ : ∃ y_ : List ByteArray,y_ = (([(⟨#[123]⟩ : ByteArray),(⟨#[125]⟩ : ByteArray),(⟨#[91]⟩ : ByteArray),(⟨#[93]⟩ : ByteArray),(⟨#[58]⟩ : ByteArray),(⟨#[44]⟩ : ByteArray),(⟨#[]⟩ : ByteArray),(⟨#[110,117,108,108]⟩ : ByteArray),(⟨#[116,114,117,101]⟩ : ByteArray),(⟨#[102,97,108,115,101]⟩ : ByteArray)] : List ByteArray)):=⟨_,rfl⟩
    replace H : (if 0 ≤ a0_0 then (if a0_0 < (y201.length : Int) then (some (rdOf ByteArray.empty y201 a0_0)) else (none)) else (none)) = some r:=by first|(rw [hy201];with_reducible exact H)|(have H2_:=(Option.bind_some _ _).symm.trans H;rw [hy201];with_reducible exact H2_)|(have H2_:=(Option.bind_some _ _).symm.trans H;with_reducible exact H2_)|with_reducible exact H|(rw [hy201];exact H)|exact H
    have Ny201:=Aside0.mk hy201
    clear hy201
    by_cases c15 : 0 ≤ a0_0
    ·rw [if_pos c15] at H
     have c15b0 : decide (0 ≤ a0_0) = true:=decide_eq_true c15
     clear c15
     by_cases c16 : a0_0 < (y201.length : Int)
     ·rw [if_pos c16] at H
      have c16b0 : decide (a0_0 < (y201.length : Int)) = true:=decide_eq_true c16
      clear c16
      obtain rfl:=Option.some.inj H
      go_enter Tryd.func29,Tryd.ntmps29
      go_wp2_with (first|((with_reducible refine gate_dst (N:=1) rfl ?_);refine box_event ?hg (N:=1) ?hd (cs:=#[.int .i64 a0_0,.string a0_1,.int .i64 a0_2,.int .i64 a0_3]) (t:=72) ?hr ?_;(case hd=>rfl);(case hg=>rfl);(case hr=>first|(go_simp;done)|(go_simp;rfl));intro gb198 hg w17 hbox hb;have n0_:=Aside0.mk (below_step (by repeat (first|(with_reducible first|exact HB.out|apply below_alloc|apply pw_below_drewN|apply below_drew1)|exact HB.out)) hb);have n1_:=Aside0.mk (hbox);have n2_:=Aside0.mk ((by rw [hg];exact (below_size (by repeat (first|(with_reducible first|exact HB.out|apply below_alloc|apply pw_below_drewN|apply below_drew1)|exact HB.out))) : w.heap.size ≤ gb198));have n3_:=Aside0.mk ((by rw [hg];exact (below_size (by repeat (first|(with_reducible first|exact HB.out|apply below_alloc|apply pw_below_drewN|apply below_drew1)|exact HB.out))) : w.heap.size ≤ gb198));clear HB;have HB:=n0_;have BK198:=n1_;have GW198:=n2_;have GE198:=n3_;clear n0_ n1_ n2_ n3_;clear hb hbox hg;have hcz18_0 : w17.cell? ⟨gb198,0,none⟩ = some (.int .i64 a0_0):=(blk_cell BK198.out 0).trans rfl;have hcz18_1 : w17.cell? ⟨gb198,1,none⟩ = some (.string a0_1):=(blk_cell BK198.out 1).trans rfl;have hcz18_2 : w17.cell? ⟨gb198,2,none⟩ = some (.int .i64 a0_2):=(blk_cell BK198.out 2).trans rfl;have hcz18_3 : w17.cell? ⟨gb198,3,none⟩ = some (.int .i64 a0_3):=(blk_cell BK198.out 3).trans rfl;have hfz18_0:=blk_frozen BK198.out 0;have hfz18_1:=blk_frozen BK198.out 1;have hfz18_2:=blk_frozen BK198.out 2;have hfz18_3:=blk_frozen BK198.out 3)|((with_reducible refine gate_dst (N:=17) rfl ?_);refine Kd.R_lit Kd.string _ 9 ?hg (N:=17) ?hd (xs:=([(⟨#[123]⟩ : ByteArray),(⟨#[125]⟩ : ByteArray),(⟨#[91]⟩ : ByteArray),(⟨#[93]⟩ : ByteArray),(⟨#[58]⟩ : ByteArray),(⟨#[44]⟩ : ByteArray),(⟨#[]⟩ : ByteArray),(⟨#[110,117,108,108]⟩ : ByteArray),(⟨#[116,114,117,101]⟩ : ByteArray),(⟨#[102,97,108,115,101]⟩ : ByteArray)] : List ByteArray)) (inner:=[.string (⟨#[123]⟩ : ByteArray),.string (⟨#[125]⟩ : ByteArray),.string (⟨#[91]⟩ : ByteArray),.string (⟨#[93]⟩ : ByteArray),.string (⟨#[58]⟩ : ByteArray),.string (⟨#[44]⟩ : ByteArray),.string (⟨#[]⟩ : ByteArray),.string (⟨#[110,117,108,108]⟩ : ByteArray),.string (⟨#[116,114,117,101]⟩ : ByteArray),.string (⟨#[102,97,108,115,101]⟩ : ByteArray)]) (ok:=fun _=>True) (okp:=fun _=>True) ?hr ?hp (fun _ hk=>hk) trivial (Below.refl _ _) (Nat.le_refl _) (by simp) ?_;(case hd=>rfl);(case hg=>rfl);(case hr=>first|(go_simp;done)|(go_simp;rfl));(case hp=>exact (Reps.one (show Kd.M Kd.string _ _ _ (⟨#[123]⟩ : ByteArray) [.string (⟨#[123]⟩ : ByteArray)] from rfl) (Reps.one (show Kd.M Kd.string _ _ _ (⟨#[125]⟩ : ByteArray) [.string (⟨#[125]⟩ : ByteArray)] from rfl) (Reps.one (show Kd.M Kd.string _ _ _ (⟨#[91]⟩ : ByteArray) [.string (⟨#[91]⟩ : ByteArray)] from rfl) (Reps.one (show Kd.M Kd.string _ _ _ (⟨#[93]⟩ : ByteArray) [.string (⟨#[93]⟩ : ByteArray)] from rfl) (Reps.one (show Kd.M Kd.string _ _ _ (⟨#[58]⟩ : ByteArray) [.string (⟨#[58]⟩ : ByteArray)] from rfl) (Reps.one (show Kd.M Kd.string _ _ _ (⟨#[44]⟩ : ByteArray) [.string (⟨#[44]⟩ : ByteArray)] from rfl) (Reps.one (show Kd.M Kd.string _ _ _ (⟨#[]⟩ : ByteArray) [.string (⟨#[]⟩ : ByteArray)] from rfl) (Reps.one (show Kd.M Kd.string _ _ _ (⟨#[110,117,108,108]⟩ : ByteArray) [.string (⟨#[110,117,108,108]⟩ : ByteArray)] from rfl) (Reps.one (show Kd.M Kd.string _ _ _ (⟨#[116,114,117,101]⟩ : ByteArray) [.string (⟨#[116,114,117,101]⟩ : ByteArray)] from rfl) (Reps.one (show Kd.M Kd.string _ _ _ (⟨#[102,97,108,115,101]⟩ : ByteArray) [.string (⟨#[102,97,108,115,101]⟩ : ByteArray)] from rfl) (Reps.none _ _))))))))))));intro v202 w19 ho20 hb hg_ hnew_;clear hg_ hnew_;(first|rw [← Ny201.out] at ho20|(simp only [Int.reduceToNat] at ho20;rw [← Ny201.out] at ho20));have n0_:=Aside0.mk (Kd.R_lower ho20 (below_size (by repeat (first|(with_reducible first|exact HB.out|apply below_alloc|apply pw_below_drewN|apply below_drew1|refine below_set ?_ GE198.out)|exact HB.out))));have n1_:=Aside0.mk (blk_below (g:=gb198) (o:=.cells #[.int .i64 a0_0,.string a0_1,.int .i64 a0_2,.int .i64 a0_3] 72 (0,0)) (by (with_reducible repeat (first|apply blk_drewN|apply blk_drew|apply blk_alloc));exact BK198.out) hb);have n2_:=Aside0.mk (below_step (by repeat (first|(with_reducible first|exact HB.out|apply below_alloc|apply pw_below_drewN|apply below_drew1|refine below_set ?_ GE198.out)|exact HB.out)) hb);clear BK198;clear HB;have HO203:=n0_;have BK198:=n1_;have HB:=n2_;clear n0_ n1_ n2_;clear hb ho20;have hcz21_0 : w19.cell? ⟨gb198,0,none⟩ = some (.int .i64 a0_0):=(blk_cell BK198.out 0).trans rfl;have hcz21_1 : w19.cell? ⟨gb198,1,none⟩ = some (.string a0_1):=(blk_cell BK198.out 1).trans rfl;have hcz21_2 : w19.cell? ⟨gb198,2,none⟩ = some (.int .i64 a0_2):=(blk_cell BK198.out 2).trans rfl;have hcz21_3 : w19.cell? ⟨gb198,3,none⟩ = some (.int .i64 a0_3):=(blk_cell BK198.out 3).trans rfl;have hfz21_0:=blk_frozen BK198.out 0;have hfz21_1:=blk_frozen BK198.out 1;have hfz21_2:=blk_frozen BK198.out 2;have hfz21_3:=blk_frozen BK198.out 3;obtain ⟨Ao22,co22,eo22⟩:=Kd.R_slice HO203.out;subst eo22;have p204 : 0 ≤ (a0_0 : Int):=of_decide_eq_true (by first|(with_reducible assumption)|assumption);have q204 : a0_0 < (y201.length : Int):=of_decide_eq_true (by first|(with_reducible assumption)|assumption);obtain ⟨ad204,e204,hx204_0⟩:=Kd.at_string (Kd.R_reads' HO203.out).2.2 a0_0 p204 q204;cases e204;replace p204:=eq_true p204;replace q204:=eq_true q204))
      go_ret
      exact ⟨by first|rfl|(simp [errW_none,errW_some] <;> rfl)|(simp [*,errW_none,errW_some] <;> rfl),by repeat (first|(with_reducible first|exact HB.out|apply below_alloc|apply pw_below_drewN|apply below_drew1|refine below_set ?_ GE198.out)|exact HB.out)⟩
     ·rw [if_neg c16] at H
      exact absurd H (by simp)
    ·rw [if_neg c15] at H
     exact absurd H (by simp)

/-! ### bosunlaw07_of: function 30 -/
def bosunlaw07_of.f (a0_0 : Int) (a0_1 : ByteArray) (a0_2 : Int) (a0_3 : Int) : Option (Int × ByteArray × Int × Int):=some (a0_0,a0_1,a0_2,a0_3)
set_option maxHeartbeats 8000000 in
set_option maxRecDepth 100000 in
theorem bosunlaw07_of.calls (a0_0 : Int) (a0_1 : ByteArray) (a0_2 : Int) (a0_3 : Int) (r1 : Int) (r2 : ByteArray) (r3 : Int) (r4 : Int) (w : World) (h : bosunlaw07_of.f a0_0 a0_1 a0_2 a0_3 = some (r1,r2,r3,r4)) :
  Calls Tryd.prog 30 #[.agg #[.int .i64 a0_0,.string a0_1,.int .i64 a0_2,.int .i64 a0_3]] w fun e w'=>e = .returned (.agg #[.int .i64 r1,.string r2,.int .i64 r3,.int .i64 r4]) ∧ Below w.heap.size w w':=by
 have hu69:=Tryd.underlying69
 have hu72:=Tryd.underlying72
 have HB:=Aside0.mk (Below.refl w.heap.size w)
 have H : (some (a0_0,a0_1,a0_2,a0_3)) = some (r1,r2,r3,r4):=h
 clear h
 simp only [Option.some.injEq,Prod.mk.injEq] at H
 obtain ⟨rfl,rfl,rfl,rfl⟩:=H
 go_enter Tryd.func30,Tryd.ntmps30
 go_wp2_with (first|((with_reducible refine gate_dst (N:=1) rfl ?_);refine box_event ?hg (N:=1) ?hd (cs:=#[.int .i64 a0_0,.string a0_1,.int .i64 a0_2,.int .i64 a0_3]) (t:=69) ?hr ?_;(case hd=>rfl);(case hg=>rfl);(case hr=>first|(go_simp;done)|(go_simp;rfl));intro gb205 hg w2 hbox hb;have n0_:=Aside0.mk (below_step (by repeat (first|(with_reducible first|exact HB.out|apply below_alloc|apply pw_below_drewN|apply below_drew1)|exact HB.out)) hb);have n1_:=Aside0.mk (hbox);have n2_:=Aside0.mk ((by rw [hg];exact (below_size (by repeat (first|(with_reducible first|exact HB.out|apply below_alloc|apply pw_below_drewN|apply below_drew1)|exact HB.out))) : w.heap.size ≤ gb205));have n3_:=Aside0.mk ((by rw [hg];exact (below_size (by repeat (first|(with_reducible first|exact HB.out|apply below_alloc|apply pw_below_drewN|apply below_drew1)|exact HB.out))) : w.heap.size ≤ gb205));clear HB;have HB:=n0_;have BK205:=n1_;have GW205:=n2_;have GE205:=n3_;clear n0_ n1_ n2_ n3_;clear hb hbox hg)|((with_reducible refine gate_dst (N:=2) rfl ?_);refine box_event ?hg (N:=2) ?hd (cs:=#[.int .i64 0,.string (⟨#[]⟩ : ByteArray),.int .i64 0,.int .i64 0]) (t:=72) ?hr ?_;(case hd=>rfl);(case hg=>rfl);(case hr=>first|(go_simp;done)|(go_simp;rfl));intro gb206 hg w3 hbox hb;have n0_:=Aside0.mk (blk_below (g:=gb205) (o:=.cells #[.int .i64 a0_0,.string a0_1,.int .i64 a0_2,.int .i64 a0_3] 69 (0,0)) (by (with_reducible repeat (first|apply blk_drewN|apply blk_drew|apply blk_alloc));exact BK205.out) hb);have n1_:=Aside0.mk (below_step (by repeat (first|(with_reducible first|exact HB.out|apply below_alloc|apply pw_below_drewN|apply below_drew1|refine below_set ?_ GE205.out)|exact HB.out)) hb);have n2_:=Aside0.mk (hbox);have n3_:=Aside0.mk ((by rw [hg];exact (below_size (by repeat (first|(with_reducible first|exact HB.out|apply below_alloc|apply pw_below_drewN|apply below_drew1|refine below_set ?_ GE205.out)|exact HB.out))) : w.heap.size ≤ gb206));have n4_:=Aside0.mk ((by rw [hg];exact (below_size (by repeat (first|(with_reducible first|exact HB.out|apply below_alloc|apply pw_below_drewN|apply below_drew1|refine below_set ?_ GE205.out)|exact HB.out))) : w.heap.size ≤ gb206));have n5_:=Aside0.mk ((by rw [hg];exact Nat.ne_of_lt (blk_lt (g:=gb205) (o:=.cells #[.int .i64 a0_0,.string a0_1,.int .i64 a0_2,.int .i64 a0_3] 69 (0,0)) (by (with_reducible repeat (first|apply blk_drewN|apply blk_drew|apply blk_alloc));exact BK205.out)) : gb205 ≠ gb206));have n6_:=Aside0.mk ((by rw [hg];exact Nat.ne_of_gt (blk_lt (g:=gb205) (o:=.cells #[.int .i64 a0_0,.string a0_1,.int .i64 a0_2,.int .i64 a0_3] 69 (0,0)) (by (with_reducible repeat (first|apply blk_drewN|apply blk_drew|apply blk_alloc));exact BK205.out)) : gb206 ≠ gb205));clear BK205;clear HB;have BK205:=n0_;have HB:=n1_;have BK206:=n2_;have GW206:=n3_;have GE206:=n4_;have NB205_206:=n5_;have NB206_205:=n6_;clear n0_ n1_ n2_ n3_ n4_ n5_ n6_;clear hb hbox hg;have hnb4:=NB205_206.out;have hnc4:=NB206_205.out;have hcz5_0 : w3.cell? ⟨gb205,0,none⟩ = some (.int .i64 a0_0):=(blk_cell BK205.out 0).trans rfl;have hcz5_1 : w3.cell? ⟨gb205,1,none⟩ = some (.string a0_1):=(blk_cell BK205.out 1).trans rfl;have hcz5_2 : w3.cell? ⟨gb205,2,none⟩ = some (.int .i64 a0_2):=(blk_cell BK205.out 2).trans rfl;have hcz5_3 : w3.cell? ⟨gb205,3,none⟩ = some (.int .i64 a0_3):=(blk_cell BK205.out 3).trans rfl;have hfz5_0:=blk_frozen BK205.out 0;have hfz5_1:=blk_frozen BK205.out 1;have hfz5_2:=blk_frozen BK205.out 2;have hfz5_3:=blk_frozen BK205.out 3;have hcz6_0 : w3.cell? ⟨gb206,0,none⟩ = some (.int .i64 0):=(blk_cell BK206.out 0).trans rfl;have hcz6_1 : w3.cell? ⟨gb206,1,none⟩ = some (.string (⟨#[]⟩ : ByteArray)):=(blk_cell BK206.out 1).trans rfl;have hcz6_2 : w3.cell? ⟨gb206,2,none⟩ = some (.int .i64 0):=(blk_cell BK206.out 2).trans rfl;have hcz6_3 : w3.cell? ⟨gb206,3,none⟩ = some (.int .i64 0):=(blk_cell BK206.out 3).trans rfl;have hfz6_0:=blk_frozen BK206.out 0;have hfz6_1:=blk_frozen BK206.out 1;have hfz6_2:=blk_frozen BK206.out 2;have hfz6_3:=blk_frozen BK206.out 3))
 refine bodyPost_ret (results_cell_row rfl _ _ gb206 72 #[.int .i64 a0_0,.string a0_1,.int .i64 a0_2,.int .i64 a0_3] (0,0) _ rfl (by (with_reducible repeat (first|apply blk_drewN|apply blk_drew|apply blk_alloc));refine blk_put (cs:=#[.int .i64 a0_0,.string a0_1,.int .i64 a0_2,.int .i64 0]) ?_ 3 _ rfl;(with_reducible repeat (first|apply blk_drewN|apply blk_drew|apply blk_alloc));refine blk_put (cs:=#[.int .i64 a0_0,.string a0_1,.int .i64 0,.int .i64 0]) ?_ 2 _ rfl;(with_reducible repeat (first|apply blk_drewN|apply blk_drew|apply blk_alloc));refine blk_put (cs:=#[.int .i64 a0_0,.string (⟨#[]⟩ : ByteArray),.int .i64 0,.int .i64 0]) ?_ 1 _ rfl;(with_reducible repeat (first|apply blk_drewN|apply blk_drew|apply blk_alloc));refine blk_put (cs:=#[.int .i64 0,.string (⟨#[]⟩ : ByteArray),.int .i64 0,.int .i64 0]) ?_ 0 _ rfl;(with_reducible repeat (first|apply blk_drewN|apply blk_drew|apply blk_alloc));exact BK206.out) Tryd.underlying72 rfl (by kernel_rfl)) rfl ?_
 exact ⟨by first|rfl|(simp [errW_none,errW_some] <;> rfl)|(simp [*,errW_none,errW_some] <;> rfl),by repeat (first|(with_reducible first|exact HB.out|apply below_alloc|apply pw_below_drewN|apply below_drew1|refine below_set ?_ GE205.out|refine below_set ?_ GE206.out)|exact HB.out)⟩

end Go.Proofs.YtnkkbiabloodaaaDoor.GUt
