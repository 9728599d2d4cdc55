/- Written by this session's own program (wip/gen.py) out of the translation: plain Lean functions of the Go functions, and proofs that the calls come to their answers. No conditions beside those in the statements. -/
import Derived.Test.YtenbeniaohigmaaDoorGUtx0
namespace Go.Proofs.YtenbeniaohigmaaDoor.GUt
open Go.RowKit Go.Proofs.YtenbeniaohigmaaDoorW.PrintWords Go.Proofs.YtenbeniaohigmaaDoorW.PrintLast Go.Proofs.YtenbeniaohigmaaDoorW.PrintMore
attribute [local go_sem] max2_int min2_int max_two min_two max_three min_three max_four min_four   -- for this text's walks alone
set_option linter.unusedVariables false
set_option linter.unusedSimpArgs false

/-! ### bosunref06_hex: function 57 -/
def bosunref06_hex.f (a0 : Int) : Option (Int):=if a0 < 10 then (some ((wrap64 (48 + a0)) % 256)) else (some ((wrap64 (87 + a0)) % 256))
set_option maxHeartbeats 8000000 in
set_option maxRecDepth 100000 in
theorem bosunref06_hex.calls (a0 : Int) (r : Int) (w : World) (h : bosunref06_hex.f a0 = some r) :
  Calls Tryd.prog 57 #[.int .i64 a0] w fun e w'=>e = .returned (.int .u8 r) ∧ Drawn0 w w':=by
 have H : (if a0 < 10 then (some ((wrap64 (48 + a0)) % 256)) else (some ((wrap64 (87 + a0)) % 256))) = some r:=h
 clear h
 by_cases c2 : a0 < 10
 ·rw [if_pos c2] at H
  have c2b0 : decide (a0 < 10) = true:=decide_eq_true c2
  clear c2
  obtain rfl:=Option.some.inj H
  go_enter Tryd.func57,Tryd.ntmps57
  go_wp2
  go_ret
  exact ⟨by first|rfl|(simp;done)|(simp [*];done),by repeat (first|exact Drawn0.refl _|apply Drawn0.step)⟩
 ·rw [if_neg c2] at H
  have c2b0 : decide (a0 < 10) = false:=decide_eq_false c2
  clear c2
  obtain rfl:=Option.some.inj H
  go_enter Tryd.func57,Tryd.ntmps57
  go_wp2
  go_ret
  exact ⟨by first|rfl|(simp;done)|(simp [*];done),by repeat (first|exact Drawn0.refl _|apply Drawn0.step)⟩

/-! ### bosunref06_Quote: function 35 -/
mutual
def bosunref06_Quote.l0 : Nat → ByteArray → List Int → Int → Option (ByteArray)
 | 0,_,_,_=>none
 | k + 1,x0,x3,x4=>if x4 < (x0.size : Int) then (if 0 ≤ x4 then (if (bt x0 x4) = 34 then (bosunref06_Quote.j1 k x0 x3 x4 (bt x0 x4) true) else (bosunref06_Quote.j1 k x0 x3 x4 (bt x0 x4) ((bt x0 x4) == 92))) else (none)) else (if x3.length < 140737488355328 then (some (strOfNums (x3 ++ [34]))) else (none))
def bosunref06_Quote.j1 : Nat → ByteArray → List Int → Int → Int → Bool → Option (ByteArray)
 | 0,_,_,_,_,_=>none
 | k + 1,x0,x3,x4,x5,x20=>if x20 = true then ((some (([92,x5] : List Int) : List Int)).bind fun y112=>(if x3.length + y112.length < 140737488355328 then (bosunref06_Quote.l0 k x0 (x3 ++ y112) (wrap64 (x4 + 1))) else (none))) else (if x5 = 10 then ((some (([92,110] : List Int) : List Int)).bind fun y118=>(if x3.length + y118.length < 140737488355328 then (bosunref06_Quote.l0 k x0 (x3 ++ y118) (wrap64 (x4 + 1))) else (none))) else (if x5 = 13 then ((some (([92,114] : List Int) : List Int)).bind fun y124=>(if x3.length + y124.length < 140737488355328 then (bosunref06_Quote.l0 k x0 (x3 ++ y124) (wrap64 (x4 + 1))) else (none))) else (if x5 = 9 then ((some (([92,116] : List Int) : List Int)).bind fun y130=>(if x3.length + y130.length < 140737488355328 then (bosunref06_Quote.l0 k x0 (x3 ++ y130) (wrap64 (x4 + 1))) else (none))) else (if x5 = 8 then ((some (([92,98] : List Int) : List Int)).bind fun y136=>(if x3.length + y136.length < 140737488355328 then (bosunref06_Quote.l0 k x0 (x3 ++ y136) (wrap64 (x4 + 1))) else (none))) else (if x5 = 12 then ((some (([92,102] : List Int) : List Int)).bind fun y142=>(if x3.length + y142.length < 140737488355328 then (bosunref06_Quote.l0 k x0 (x3 ++ y142) (wrap64 (x4 + 1))) else (none))) else (if x5 < 32 then ((bosunref06_hex.f (wrap64 (Int.tdiv (wrap64 (x5)) 16))).bind fun t148=>((bosunref06_hex.f (Int.tmod (wrap64 (x5)) 16)).bind fun t149=>((some (([92,117,48,48,t148,t149] : List Int) : List Int)).bind fun y150=>(if x3.length + y150.length < 140737488355328 then (bosunref06_Quote.l0 k x0 (x3 ++ y150) (wrap64 (x4 + 1))) else (none))))) else (if x3.length < 140737488355328 then (bosunref06_Quote.l0 k x0 (x3 ++ [x5]) (wrap64 (x4 + 1))) else (none))))))))
end
def bosunref06_Quote.f (k : Nat) (a0 : ByteArray) : Option (ByteArray):=bosunref06_Quote.l0 k a0 (([34] : List Int)) 0
theorem bosunref06_Quote.mono_l : ∀ k,(∀ y0 y1 y2,LeO (bosunref06_Quote.l0 k y0 y1 y2) (bosunref06_Quote.l0 (k + 1) y0 y1 y2)) ∧ (∀ y0 y1 y2 y3 y4,LeO (bosunref06_Quote.j1 k y0 y1 y2 y3 y4) (bosunref06_Quote.j1 (k + 1) y0 y1 y2 y3 y4))
 | 0=>⟨fun _ _ _ r h=>by simp [bosunref06_Quote.l0] at h,fun _ _ _ _ _ r h=>by simp [bosunref06_Quote.j1] at h⟩
 | k + 1=>by
  obtain ⟨ih0,ih1⟩:=bosunref06_Quote.mono_l k
  refine ⟨?_,?_⟩
  ·intro y0 y1 y2
   unfold bosunref06_Quote.l0
   repeat' first
   | (with_reducible exact ih0 _ _ _)
   | (with_reducible exact ih1 _ _ _ _ _)
   | (with_reducible exact LeO.refl _)
   | (with_reducible exact LeO.none _)
   | (with_reducible refine LeO.ite ?_ ?_)
   | (with_reducible refine LeO.bind ?_ (fun _=>?_))
   | exact ih0 _ _ _
   | exact ih1 _ _ _ _ _
   | exact LeO.none _
   | refine LeO.ite ?_ ?_
   | refine LeO.bind ?_ (fun _=>?_)
  ·intro y0 y1 y2 y3 y4
   unfold bosunref06_Quote.j1
   repeat' first
   | (with_reducible exact ih0 _ _ _)
   | (with_reducible exact ih1 _ _ _ _ _)
   | (with_reducible exact LeO.refl _)
   | (with_reducible exact LeO.none _)
   | (with_reducible refine LeO.ite ?_ ?_)
   | (with_reducible refine LeO.bind ?_ (fun _=>?_))
   | exact ih0 _ _ _
   | exact ih1 _ _ _ _ _
   | exact LeO.none _
   | refine LeO.ite ?_ ?_
   | refine LeO.bind ?_ (fun _=>?_)
theorem bosunref06_Quote.mono : ∀ a0 k,LeO (bosunref06_Quote.f k a0) (bosunref06_Quote.f (k + 1) a0):=by
 intro a0 k
 obtain ⟨ih0,ih1⟩:=bosunref06_Quote.mono_l k
 unfold bosunref06_Quote.f
 repeat' first
   | (with_reducible exact ih0 _ _ _)
   | (with_reducible exact ih1 _ _ _ _ _)
   | (with_reducible exact LeO.refl _)
   | (with_reducible exact LeO.none _)
   | (with_reducible refine LeO.ite ?_ ?_)
   | (with_reducible refine LeO.bind ?_ (fun _=>?_))
   | exact ih0 _ _ _
   | exact ih1 _ _ _ _ _
   | exact LeO.none _
   | refine LeO.ite ?_ ?_
   | refine LeO.bind ?_ (fun _=>?_)
set_option maxHeartbeats 8000000 in
set_option maxRecDepth 100000 in
theorem bosunref06_Quote.calls (k : Nat) (a0 : ByteArray) (r : ByteArray) (w : World) (h : bosunref06_Quote.f k a0 = some r) :
  Calls Tryd.prog 35 #[.string a0] w fun e w'=>e = .returned (.string r) ∧ Below w.heap.size w w':=by
 have HB:=Aside0.mk (Below.refl w.heap.size w)
 have H : (bosunref06_Quote.l0 k a0 (([34] : List Int)) 0) = some r:=h
 clear h
 obtain ⟨y106,hy106⟩ : ∃ y_ : List Int,y_ = (([34] : List Int)):=⟨_,rfl⟩
 replace H : (bosunref06_Quote.l0 k a0 y106 0) = some r:=by first|(rw [hy106];with_reducible exact H)|(have H2_:=(Option.bind_some _ _).symm.trans H;rw [hy106];with_reducible exact H2_)|(have H2_:=(Option.bind_some _ _).symm.trans H;with_reducible exact H2_)|with_reducible exact H|(rw [hy106];exact H)|exact H
 have Ny106:=Aside0.mk hy106
 clear hy106
 have H':=Aside0.mk H
 clear H
 go_enter Tryd.func35,Tryd.ntmps35
 go_wp2_with (first|((with_reducible refine gate_dst (N:=6) rfl ?_);refine Kd.R_lit (Kd.int .u8) _ 5 ?hg (N:=6) ?hd (xs:=([34] : List Int)) (inner:=[.int .u8 34]) (ok:=fun _=>True) (okp:=fun _=>True) ?hr ?hp (fun _ hk=>hk) trivial (Below.refl _ _) (Nat.le_refl _) (by simp) ?_;(case hd=>rfl);(case hg=>rfl);(case hr=>first|(go_simp;done)|(go_simp;rfl));(case hp=>exact (Reps.one (show Kd.M (Kd.int .u8) _ _ _ 34 [.int .u8 34] from rfl) (Reps.none _ _)));intro v107 w2 ho3 hb hg_ hnew_;clear hg_ hnew_;(first|rw [← Ny106.out] at ho3|(simp only [Int.reduceToNat] at ho3;rw [← Ny106.out] at ho3));have n0_:=Aside0.mk (Kd.R_lower ho3 (below_size (by repeat (first|(with_reducible first|exact HB.out|apply below_alloc|apply pw_below_drewN|apply below_drew1)|exact HB.out))));have n1_:=Aside0.mk (below_step (by repeat (first|(with_reducible first|exact HB.out|apply below_alloc|apply pw_below_drewN|apply below_drew1)|exact HB.out)) hb);clear HB;have HO108:=n0_;have HB:=n1_;clear n0_ n1_;clear hb ho3))
 go_loopg [3,4] k (fun kq v3 v4 w'=>∃ (x3_1 : List Int) (x4_1 : Int),v4 = .int .i64 x4_1 ∧ Aside0 (bosunref06_Quote.l0 kq a0 x3_1 x4_1 = some r) ∧ Aside0 (kq ≤ k) ∧ Aside0 (Kd.R (Kd.int .u8) 5 w' w.heap.size (fun _=>True) v3 x3_1) ∧ Aside0 (Below w.heap.size w w'))
 case atStart=>exact ⟨(y106),(0),(by first|rfl|(simp;done)|(simp [*];done)),H',⟨Nat.le_refl _⟩,⟨by (with_reducible repeat (first|apply Kd.R_alloc|apply Kd.R_drewN|apply Kd.R_drew));exact HO108.out⟩,⟨by repeat (first|(with_reducible first|exact HB.out|apply below_alloc|apply pw_below_drewN|apply below_drew1)|exact HB.out)⟩⟩
 case round =>
  clear H'
  try clear p2
  try clear c3
  obtain ⟨x3_1,x4_1,rfl,HA,HK1,HO_3,HB⟩:=hrel
  cases gk with
  | zero=>exact absurd HA.out (by simp [bosunref06_Quote.l0])
  | succ k1 =>
   have H:=HA.out
   clear HA
   simp only [bosunref06_Quote.l0] at H
   by_cases c4 : x4_1 < (a0.size : Int)
   ·rw [if_pos c4] at H
    have c4b0 : decide (x4_1 < (a0.size : Int)) = true:=decide_eq_true c4
    clear c4
    by_cases c5 : 0 ≤ x4_1
    ·rw [if_pos c5] at H
     have c5b0 : decide (0 ≤ x4_1) = true:=decide_eq_true c5
     clear c5
     have HC7:=Aside0.mk H
     clear H
     have p6 : 0 ≤ (x4_1 : Int):=of_decide_eq_true (by first|(with_reducible assumption)|assumption)
     have q6 : x4_1 < (a0.size : Int):=of_decide_eq_true (by first|(with_reducible assumption)|assumption)
     have hx6:=bt_at a0 x4_1
     replace p6:=eq_true p6
     replace q6:=eq_true q6
     go_upto_region 7 with (fail)
     go_cut [20] (fun v20 wc=>∃ (kq : Nat) (x20_6 : Bool),v20 = .bool x20_6 ∧ Aside0 (bosunref06_Quote.j1 kq a0 x3_1 x4_1 (bt a0 x4_1) x20_6 = some r) ∧ Aside0 (kq ≤ k1) ∧ Aside0 (Kd.R (Kd.int .u8) 5 wc w.heap.size (fun _=>True) u3 x3_1) ∧ Aside0 (Below w.heap.size w wc))
     case first =>
      have H:=HC7.out
      clear HC7
      by_cases c8 : (bt a0 x4_1) = 34
      ·rw [if_pos c8] at H
       have c8b0 : ((bt a0 x4_1) == 34) = true:=beq_iff_eq.mpr c8
       have c8b1 : ((bt a0 x4_1) != 34) = false:=bne_eq_false_iff_eq.mpr c8
       clear c8
       (first|rw [c8b0]|(simp only [i64_w,i32_w];rw [c8b0])|skip)
       have H':=Aside0.mk H
       clear H
       go_wp2
       go_meet
       case rel=>exact ⟨_,(true),(by first|rfl|(simp;done)|(simp [*];done)),H',⟨by have:=HK1.out;first|omega|exact Nat.le_refl _⟩,⟨by (with_reducible repeat (first|apply Kd.R_alloc|apply Kd.R_drewN|apply Kd.R_drew));exact HO_3.out⟩,⟨by repeat (first|(with_reducible first|exact HB.out|apply below_alloc|apply pw_below_drewN|apply below_drew1)|exact HB.out)⟩⟩
      ·rw [if_neg c8] at H
       have c8b0 : ((bt a0 x4_1) == 34) = false:=beq_eq_false_iff_ne.mpr c8
       have c8b1 : ((bt a0 x4_1) != 34) = true:=bne_iff_ne.mpr c8
       (first|rw [c8b0]|(simp only [i64_w,i32_w];rw [c8b0])|skip)
       have H':=Aside0.mk H
       clear H
       go_wp2
       go_meet
       case rel=>exact ⟨_,(((bt a0 x4_1) == 92)),(by first|rfl|(simp;done)|(simp [*];done)),H',⟨by have:=HK1.out;first|omega|exact Nat.le_refl _⟩,⟨by (with_reducible repeat (first|apply Kd.R_alloc|apply Kd.R_drewN|apply Kd.R_drew));exact HO_3.out⟩,⟨by repeat (first|(with_reducible first|exact HB.out|apply below_alloc|apply pw_below_drewN|apply below_drew1)|exact HB.out)⟩⟩
     case rest =>
      clear HC7
      try clear p2
      try clear c3
      try clear c4
      try clear c4b0
      try clear c5
      try clear c5b0
      try clear p6
      try clear q6
      try clear hx6
      try clear c8
      try clear c8b0
      try clear c8b1
      try clear p2
      try clear p6
      try clear q6
      obtain ⟨kq,x20_6,rfl,HA,HJ6,HO_3,HB⟩:=hcut
      cases kq with
      | zero=>exact absurd HA.out (by simp [bosunref06_Quote.j1])
      | succ kj6 =>
       have H:=HA.out
       clear HA
       simp only [bosunref06_Quote.j1] at H
       by_cases c9 : x20_6 = true
       ·subst c9
        have H1 : ((some (([92,(bt a0 x4_1)] : List Int) : List Int)).bind fun y112=>(if x3_1.length + y112.length < 140737488355328 then (bosunref06_Quote.l0 kj6 a0 (x3_1 ++ y112) (wrap64 (x4_1 + 1))) else (none))) = some r:=by rw [if_pos rfl] at H;exact H
        clear H
        have H:=H1
        clear H1
        obtain ⟨y112,hy112⟩ : ∃ y_ : List Int,y_ = (([92,(bt a0 x4_1)] : List Int)):=⟨_,rfl⟩
        replace H : (if x3_1.length + y112.length < 140737488355328 then (bosunref06_Quote.l0 kj6 a0 (x3_1 ++ y112) (wrap64 (x4_1 + 1))) else (none)) = some r:=by first|(rw [hy112];with_reducible exact H)|(have H2_:=(Option.bind_some _ _).symm.trans H;rw [hy112];with_reducible exact H2_)|(have H2_:=(Option.bind_some _ _).symm.trans H;with_reducible exact H2_)|with_reducible exact H|(rw [hy112];exact H)|exact H
        have Ny112:=Aside0.mk hy112
        clear hy112
        by_cases c10 : x3_1.length + y112.length < 140737488355328
        ·rw [if_pos c10] at H
         have LMc10:=Aside0.mk c10
         clear c10
         obtain ⟨y115,hy115⟩ : ∃ y_ : List Int,y_ = (x3_1 ++ y112):=⟨_,rfl⟩
         replace H : (bosunref06_Quote.l0 kj6 a0 y115 (wrap64 (x4_1 + 1))) = some r:=by first|(rw [hy115];with_reducible exact H)|(have H2_:=(Option.bind_some _ _).symm.trans H;rw [hy115];with_reducible exact H2_)|(have H2_:=(Option.bind_some _ _).symm.trans H;with_reducible exact H2_)|with_reducible exact H|(rw [hy115];exact H)|exact H
         have Ny115:=Aside0.mk hy115
         clear hy115
         have H':=Aside0.mk H
         clear H
         go_wp2_with (first|((with_reducible refine gate_dst (N:=29) rfl ?_);refine Kd.R_lit (Kd.int .u8) _ 5 ?hg (N:=29) ?hd (xs:=([92,(bt a0 x4_1)] : List Int)) (inner:=[.int .u8 92,.int .u8 (bt a0 x4_1)]) (ok:=fun _=>True) (okp:=fun _=>True) ?hr ?hp (fun _ hk=>hk) trivial (Below.refl _ _) (Nat.le_refl _) (by simp) ?_;(case hd=>rfl);(case hg=>rfl);(case hr=>first|(go_simp;done)|(go_simp;rfl));(case hp=>exact (Reps.one (show Kd.M (Kd.int .u8) _ _ _ 92 [.int .u8 92] from rfl) (Reps.one (show Kd.M (Kd.int .u8) _ _ _ (bt a0 x4_1) [.int .u8 (bt a0 x4_1)] from rfl) (Reps.none _ _))));intro v113 w11 ho12 hb hg_ hnew_;clear hg_ hnew_;(first|rw [← Ny112.out] at ho12|(simp only [Int.reduceToNat] at ho12;rw [← Ny112.out] at ho12));have n0_:=Aside0.mk (Kd.R_elder' (by (with_reducible repeat (first|apply Kd.R_alloc|apply Kd.R_drewN|apply Kd.R_drew));exact HO_3.out) (Kd.R_base ho12) hb);have n1_:=Aside0.mk (Kd.R_lower (Kd.R_new' ho12 (Kd.R_lt (by (with_reducible repeat (first|apply Kd.R_alloc|apply Kd.R_drewN|apply Kd.R_drew));exact HO_3.out))) (below_size (by repeat (first|(with_reducible first|exact HB.out|apply below_alloc|apply pw_below_drewN|apply below_drew1)|exact HB.out))));have n2_:=Aside0.mk (below_step (by repeat (first|(with_reducible first|exact HB.out|apply below_alloc|apply pw_below_drewN|apply below_drew1)|exact HB.out)) hb);clear HO_3;clear HB;have HO_3:=n0_;have HO114:=n1_;have HB:=n2_;clear n0_ n1_ n2_;clear hb ho12;obtain ⟨Ao14,co14,eo14⟩:=Kd.R_slice HO114.out;subst eo14)|((with_reducible refine gate_builtin (b:=.append) (xs:=#[.tmp 27,.tmp 29]) rfl ?_);at_builtin;refine Kd.R_append_rows (Kd.int .u8) (w0:=w) w.heap.size rfl (.tmp 27) (.tmp 29) 77 5 (.int .u8 0) 1 rfl Tryd.underlying77 info5 rfl (by decide) (by omega) u3 x3_1 y112 _ _ _ (fun k_=>some k_ ≠ (.slice Ao14 y112.length co14 : Value).ownBlock) (fun _=>False) rfl rfl ?aO ?aR (fun _ _ h=>h) (fun _ h=>h.elim) ?aF ?aB ?aS ?aL ?_;(case aR=>repeat (first|exact (Kd.R_reads' HO114.out).2.2|(with_reducible refine Kd.C_alloc ?_ _)|(with_reducible refine Kd.C_drewN ?_ _)|(with_reducible refine Kd.C_drew ?_)));(case aB=>exact (by repeat (first|(with_reducible first|exact HB.out|apply below_alloc|apply pw_below_drewN|apply below_drew1)|exact HB.out)));(case aF=>exact (fun k_ hk=>Kd.fresh' (Kd.R_lt (by (with_reducible repeat (first|apply Kd.R_alloc|apply Kd.R_drewN|apply Kd.R_drew));exact HO114.out)) k_ hk));(case aO=>exact (by (with_reducible repeat (first|apply Kd.R_alloc|apply Kd.R_drewN|apply Kd.R_drew));exact Kd.R_mono HO_3.out (fun _ hk=>hk.2)));(case aS=>exact (below_size (by repeat (first|(with_reducible first|exact HB.out|apply below_alloc|apply pw_below_drewN|apply below_drew1)|exact HB.out))));(case aL=>have:=LMc10.out;omega);intro v116 w13 ho hb hg hat;rw [← Ny115.out] at ho;have n0_:=Aside0.mk (Kd.R_after (ok:=(fun _=>True)) (by (with_reducible repeat (first|apply Kd.R_alloc|apply Kd.R_drewN|apply Kd.R_drew));exact HO114.out) hg hat);have n1_:=Aside0.mk (hb);have n2_:=Aside0.mk (ho);clear HO114;clear HB;clear HO_3;have HO114:=n0_;have HB:=n1_;have HO117:=n2_;clear n0_ n1_ n2_;clear ho hb hg hat))
         go_roundg kj6
         case measure=>have:=HK1.out;have:=HJ6.out;omega
         case rel=>exact ⟨(y115),(wrap64 (x4_1 + 1)),(by first|rfl|(simp;done)|(simp [*];done)),H',⟨by have:=HK1.out;have:=HJ6.out;omega⟩,⟨by (with_reducible repeat (first|apply Kd.R_alloc|apply Kd.R_drewN|apply Kd.R_drew));exact Kd.R_mono HO117.out (fun _ hk=>trivial)⟩,⟨by repeat (first|(with_reducible first|exact HB.out|apply below_alloc|apply pw_below_drewN|apply below_drew1)|exact HB.out)⟩⟩
        ·rw [if_neg c10] at H
         exact absurd H (by simp)
       ·replace c9:=Bool.eq_false_iff.mpr c9
        subst c9
        have H1 : (if (bt a0 x4_1) = 10 then ((some (([92,110] : List Int) : List Int)).bind fun y118=>(if x3_1.length + y118.length < 140737488355328 then (bosunref06_Quote.l0 kj6 a0 (x3_1 ++ y118) (wrap64 (x4_1 + 1))) else (none))) else (if (bt a0 x4_1) = 13 then ((some (([92,114] : List Int) : List Int)).bind fun y124=>(if x3_1.length + y124.length < 140737488355328 then (bosunref06_Quote.l0 kj6 a0 (x3_1 ++ y124) (wrap64 (x4_1 + 1))) else (none))) else (if (bt a0 x4_1) = 9 then ((some (([92,116] : List Int) : List Int)).bind fun y130=>(if x3_1.length + y130.length < 140737488355328 then (bosunref06_Quote.l0 kj6 a0 (x3_1 ++ y130) (wrap64 (x4_1 + 1))) else (none))) else (if (bt a0 x4_1) = 8 then ((some (([92,98] : List Int) : List Int)).bind fun y136=>(if x3_1.length + y136.length < 140737488355328 then (bosunref06_Quote.l0 kj6 a0 (x3_1 ++ y136) (wrap64 (x4_1 + 1))) else (none))) else (if (bt a0 x4_1) = 12 then ((some (([92,102] : List Int) : List Int)).bind fun y142=>(if x3_1.length + y142.length < 140737488355328 then (bosunref06_Quote.l0 kj6 a0 (x3_1 ++ y142) (wrap64 (x4_1 + 1))) else (none))) else (if (bt a0 x4_1) < 32 then ((bosunref06_hex.f (wrap64 (Int.tdiv (wrap64 ((bt a0 x4_1))) 16))).bind fun t148=>((bosunref06_hex.f (Int.tmod (wrap64 ((bt a0 x4_1))) 16)).bind fun t149=>((some (([92,117,48,48,t148,t149] : List Int) : List Int)).bind fun y150=>(if x3_1.length + y150.length < 140737488355328 then (bosunref06_Quote.l0 kj6 a0 (x3_1 ++ y150) (wrap64 (x4_1 + 1))) else (none))))) else (if x3_1.length < 140737488355328 then (bosunref06_Quote.l0 kj6 a0 (x3_1 ++ [(bt a0 x4_1)]) (wrap64 (x4_1 + 1))) else (none)))))))) = some r:=by rw [if_neg (show ¬ (false = true) by decide)] at H;exact H
        clear H
        have H:=H1
        clear H1
        by_cases c15 : (bt a0 x4_1) = 10
        ·rw [if_pos c15] at H
         have c15b0 : ((bt a0 x4_1) == 10) = true:=beq_iff_eq.mpr c15
         have c15b1 : ((bt a0 x4_1) != 10) = false:=bne_eq_false_iff_eq.mpr c15
         clear c15
         obtain ⟨y118,hy118⟩ : ∃ y_ : List Int,y_ = (([92,110] : List Int)):=⟨_,rfl⟩
         replace H : (if x3_1.length + y118.length < 140737488355328 then (bosunref06_Quote.l0 kj6 a0 (x3_1 ++ y118) (wrap64 (x4_1 + 1))) else (none)) = some r:=by first|(rw [hy118];with_reducible exact H)|(have H2_:=(Option.bind_some _ _).symm.trans H;rw [hy118];with_reducible exact H2_)|(have H2_:=(Option.bind_some _ _).symm.trans H;with_reducible exact H2_)|with_reducible exact H|(rw [hy118];exact H)|exact H
         have Ny118:=Aside0.mk hy118
         clear hy118
         by_cases c16 : x3_1.length + y118.length < 140737488355328
         ·rw [if_pos c16] at H
          have LMc16:=Aside0.mk c16
          clear c16
          obtain ⟨y121,hy121⟩ : ∃ y_ : List Int,y_ = (x3_1 ++ y118):=⟨_,rfl⟩
          replace H : (bosunref06_Quote.l0 kj6 a0 y121 (wrap64 (x4_1 + 1))) = some r:=by first|(rw [hy121];with_reducible exact H)|(have H2_:=(Option.bind_some _ _).symm.trans H;rw [hy121];with_reducible exact H2_)|(have H2_:=(Option.bind_some _ _).symm.trans H;with_reducible exact H2_)|with_reducible exact H|(rw [hy121];exact H)|exact H
          have Ny121:=Aside0.mk hy121
          clear hy121
          have H':=Aside0.mk H
          clear H
          go_wp2_with (first|((with_reducible refine gate_dst (N:=35) rfl ?_);refine Kd.R_lit (Kd.int .u8) _ 5 ?hg (N:=35) ?hd (xs:=([92,110] : List Int)) (inner:=[.int .u8 92,.int .u8 110]) (ok:=fun _=>True) (okp:=fun _=>True) ?hr ?hp (fun _ hk=>hk) trivial (Below.refl _ _) (Nat.le_refl _) (by simp) ?_;(case hd=>rfl);(case hg=>rfl);(case hr=>first|(go_simp;done)|(go_simp;rfl));(case hp=>exact (Reps.one (show Kd.M (Kd.int .u8) _ _ _ 92 [.int .u8 92] from rfl) (Reps.one (show Kd.M (Kd.int .u8) _ _ _ 110 [.int .u8 110] from rfl) (Reps.none _ _))));intro v119 w17 ho18 hb hg_ hnew_;clear hg_ hnew_;(first|rw [← Ny118.out] at ho18|(simp only [Int.reduceToNat] at ho18;rw [← Ny118.out] at ho18));have n0_:=Aside0.mk (Kd.R_elder' (by (with_reducible repeat (first|apply Kd.R_alloc|apply Kd.R_drewN|apply Kd.R_drew));exact HO_3.out) (Kd.R_base ho18) hb);have n1_:=Aside0.mk (Kd.R_lower (Kd.R_new' ho18 (Kd.R_lt (by (with_reducible repeat (first|apply Kd.R_alloc|apply Kd.R_drewN|apply Kd.R_drew));exact HO_3.out))) (below_size (by repeat (first|(with_reducible first|exact HB.out|apply below_alloc|apply pw_below_drewN|apply below_drew1)|exact HB.out))));have n2_:=Aside0.mk (below_step (by repeat (first|(with_reducible first|exact HB.out|apply below_alloc|apply pw_below_drewN|apply below_drew1)|exact HB.out)) hb);clear HO_3;clear HB;have HO_3:=n0_;have HO120:=n1_;have HB:=n2_;clear n0_ n1_ n2_;clear hb ho18;obtain ⟨Ao20,co20,eo20⟩:=Kd.R_slice HO120.out;subst eo20)|((with_reducible refine gate_builtin (b:=.append) (xs:=#[.tmp 34,.tmp 35]) rfl ?_);at_builtin;refine Kd.R_append_rows (Kd.int .u8) (w0:=w) w.heap.size rfl (.tmp 34) (.tmp 35) 77 5 (.int .u8 0) 1 rfl Tryd.underlying77 info5 rfl (by decide) (by omega) u3 x3_1 y118 _ _ _ (fun k_=>some k_ ≠ (.slice Ao20 y118.length co20 : Value).ownBlock) (fun _=>False) rfl rfl ?aO ?aR (fun _ _ h=>h) (fun _ h=>h.elim) ?aF ?aB ?aS ?aL ?_;(case aR=>repeat (first|exact (Kd.R_reads' HO120.out).2.2|(with_reducible refine Kd.C_alloc ?_ _)|(with_reducible refine Kd.C_drewN ?_ _)|(with_reducible refine Kd.C_drew ?_)));(case aB=>exact (by repeat (first|(with_reducible first|exact HB.out|apply below_alloc|apply pw_below_drewN|apply below_drew1)|exact HB.out)));(case aF=>exact (fun k_ hk=>Kd.fresh' (Kd.R_lt (by (with_reducible repeat (first|apply Kd.R_alloc|apply Kd.R_drewN|apply Kd.R_drew));exact HO120.out)) k_ hk));(case aO=>exact (by (with_reducible repeat (first|apply Kd.R_alloc|apply Kd.R_drewN|apply Kd.R_drew));exact Kd.R_mono HO_3.out (fun _ hk=>hk.2)));(case aS=>exact (below_size (by repeat (first|(with_reducible first|exact HB.out|apply below_alloc|apply pw_below_drewN|apply below_drew1)|exact HB.out))));(case aL=>have:=LMc16.out;omega);intro v122 w19 ho hb hg hat;rw [← Ny121.out] at ho;have n0_:=Aside0.mk (Kd.R_after (ok:=(fun _=>True)) (by (with_reducible repeat (first|apply Kd.R_alloc|apply Kd.R_drewN|apply Kd.R_drew));exact HO120.out) hg hat);have n1_:=Aside0.mk (hb);have n2_:=Aside0.mk (ho);clear HO120;clear HB;clear HO_3;have HO120:=n0_;have HB:=n1_;have HO123:=n2_;clear n0_ n1_ n2_;clear ho hb hg hat))
          go_roundg kj6
          case measure=>have:=HK1.out;have:=HJ6.out;omega
          case rel=>exact ⟨(y121),(wrap64 (x4_1 + 1)),(by first|rfl|(simp;done)|(simp [*];done)),H',⟨by have:=HK1.out;have:=HJ6.out;omega⟩,⟨by (with_reducible repeat (first|apply Kd.R_alloc|apply Kd.R_drewN|apply Kd.R_drew));exact Kd.R_mono HO123.out (fun _ hk=>trivial)⟩,⟨by repeat (first|(with_reducible first|exact HB.out|apply below_alloc|apply pw_below_drewN|apply below_drew1)|exact HB.out)⟩⟩
         ·rw [if_neg c16] at H
          exact absurd H (by simp)
        ·rw [if_neg c15] at H
         have c15b0 : ((bt a0 x4_1) == 10) = false:=beq_eq_false_iff_ne.mpr c15
         have c15b1 : ((bt a0 x4_1) != 10) = true:=bne_iff_ne.mpr c15
         by_cases c21 : (bt a0 x4_1) = 13
         ·rw [if_pos c21] at H
          have c21b0 : ((bt a0 x4_1) == 13) = true:=beq_iff_eq.mpr c21
          have c21b1 : ((bt a0 x4_1) != 13) = false:=bne_eq_false_iff_eq.mpr c21
          clear c21
          obtain ⟨y124,hy124⟩ : ∃ y_ : List Int,y_ = (([92,114] : List Int)):=⟨_,rfl⟩
          replace H : (if x3_1.length + y124.length < 140737488355328 then (bosunref06_Quote.l0 kj6 a0 (x3_1 ++ y124) (wrap64 (x4_1 + 1))) else (none)) = some r:=by first|(rw [hy124];with_reducible exact H)|(have H2_:=(Option.bind_some _ _).symm.trans H;rw [hy124];with_reducible exact H2_)|(have H2_:=(Option.bind_some _ _).symm.trans H;with_reducible exact H2_)|with_reducible exact H|(rw [hy124];exact H)|exact H
          have Ny124:=Aside0.mk hy124
          clear hy124
          by_cases c22 : x3_1.length + y124.length < 140737488355328
          ·rw [if_pos c22] at H
           have LMc22:=Aside0.mk c22
           clear c22
           obtain ⟨y127,hy127⟩ : ∃ y_ : List Int,y_ = (x3_1 ++ y124):=⟨_,rfl⟩
           replace H : (bosunref06_Quote.l0 kj6 a0 y127 (wrap64 (x4_1 + 1))) = some r:=by first|(rw [hy127];with_reducible exact H)|(have H2_:=(Option.bind_some _ _).symm.trans H;rw [hy127];with_reducible exact H2_)|(have H2_:=(Option.bind_some _ _).symm.trans H;with_reducible exact H2_)|with_reducible exact H|(rw [hy127];exact H)|exact H
           have Ny127:=Aside0.mk hy127
           clear hy127
           have H':=Aside0.mk H
           clear H
           go_wp2_with (first|((with_reducible refine gate_dst (N:=41) rfl ?_);refine Kd.R_lit (Kd.int .u8) _ 5 ?hg (N:=41) ?hd (xs:=([92,114] : List Int)) (inner:=[.int .u8 92,.int .u8 114]) (ok:=fun _=>True) (okp:=fun _=>True) ?hr ?hp (fun _ hk=>hk) trivial (Below.refl _ _) (Nat.le_refl _) (by simp) ?_;(case hd=>rfl);(case hg=>rfl);(case hr=>first|(go_simp;done)|(go_simp;rfl));(case hp=>exact (Reps.one (show Kd.M (Kd.int .u8) _ _ _ 92 [.int .u8 92] from rfl) (Reps.one (show Kd.M (Kd.int .u8) _ _ _ 114 [.int .u8 114] from rfl) (Reps.none _ _))));intro v125 w23 ho24 hb hg_ hnew_;clear hg_ hnew_;(first|rw [← Ny124.out] at ho24|(simp only [Int.reduceToNat] at ho24;rw [← Ny124.out] at ho24));have n0_:=Aside0.mk (Kd.R_elder' (by (with_reducible repeat (first|apply Kd.R_alloc|apply Kd.R_drewN|apply Kd.R_drew));exact HO_3.out) (Kd.R_base ho24) hb);have n1_:=Aside0.mk (Kd.R_lower (Kd.R_new' ho24 (Kd.R_lt (by (with_reducible repeat (first|apply Kd.R_alloc|apply Kd.R_drewN|apply Kd.R_drew));exact HO_3.out))) (below_size (by repeat (first|(with_reducible first|exact HB.out|apply below_alloc|apply pw_below_drewN|apply below_drew1)|exact HB.out))));have n2_:=Aside0.mk (below_step (by repeat (first|(with_reducible first|exact HB.out|apply below_alloc|apply pw_below_drewN|apply below_drew1)|exact HB.out)) hb);clear HO_3;clear HB;have HO_3:=n0_;have HO126:=n1_;have HB:=n2_;clear n0_ n1_ n2_;clear hb ho24;obtain ⟨Ao26,co26,eo26⟩:=Kd.R_slice HO126.out;subst eo26)|((with_reducible refine gate_builtin (b:=.append) (xs:=#[.tmp 40,.tmp 41]) rfl ?_);at_builtin;refine Kd.R_append_rows (Kd.int .u8) (w0:=w) w.heap.size rfl (.tmp 40) (.tmp 41) 77 5 (.int .u8 0) 1 rfl Tryd.underlying77 info5 rfl (by decide) (by omega) u3 x3_1 y124 _ _ _ (fun k_=>some k_ ≠ (.slice Ao26 y124.length co26 : Value).ownBlock) (fun _=>False) rfl rfl ?aO ?aR (fun _ _ h=>h) (fun _ h=>h.elim) ?aF ?aB ?aS ?aL ?_;(case aR=>repeat (first|exact (Kd.R_reads' HO126.out).2.2|(with_reducible refine Kd.C_alloc ?_ _)|(with_reducible refine Kd.C_drewN ?_ _)|(with_reducible refine Kd.C_drew ?_)));(case aB=>exact (by repeat (first|(with_reducible first|exact HB.out|apply below_alloc|apply pw_below_drewN|apply below_drew1)|exact HB.out)));(case aF=>exact (fun k_ hk=>Kd.fresh' (Kd.R_lt (by (with_reducible repeat (first|apply Kd.R_alloc|apply Kd.R_drewN|apply Kd.R_drew));exact HO126.out)) k_ hk));(case aO=>exact (by (with_reducible repeat (first|apply Kd.R_alloc|apply Kd.R_drewN|apply Kd.R_drew));exact Kd.R_mono HO_3.out (fun _ hk=>hk.2)));(case aS=>exact (below_size (by repeat (first|(with_reducible first|exact HB.out|apply below_alloc|apply pw_below_drewN|apply below_drew1)|exact HB.out))));(case aL=>have:=LMc22.out;omega);intro v128 w25 ho hb hg hat;rw [← Ny127.out] at ho;have n0_:=Aside0.mk (Kd.R_after (ok:=(fun _=>True)) (by (with_reducible repeat (first|apply Kd.R_alloc|apply Kd.R_drewN|apply Kd.R_drew));exact HO126.out) hg hat);have n1_:=Aside0.mk (hb);have n2_:=Aside0.mk (ho);clear HO126;clear HB;clear HO_3;have HO126:=n0_;have HB:=n1_;have HO129:=n2_;clear n0_ n1_ n2_;clear ho hb hg hat))
           go_roundg kj6
           case measure=>have:=HK1.out;have:=HJ6.out;omega
           case rel=>exact ⟨(y127),(wrap64 (x4_1 + 1)),(by first|rfl|(simp;done)|(simp [*];done)),H',⟨by have:=HK1.out;have:=HJ6.out;omega⟩,⟨by (with_reducible repeat (first|apply Kd.R_alloc|apply Kd.R_drewN|apply Kd.R_drew));exact Kd.R_mono HO129.out (fun _ hk=>trivial)⟩,⟨by repeat (first|(with_reducible first|exact HB.out|apply below_alloc|apply pw_below_drewN|apply below_drew1)|exact HB.out)⟩⟩
          ·rw [if_neg c22] at H
           exact absurd H (by simp)
         ·rw [if_neg c21] at H
          have c21b0 : ((bt a0 x4_1) == 13) = false:=beq_eq_false_iff_ne.mpr c21
          have c21b1 : ((bt a0 x4_1) != 13) = true:=bne_iff_ne.mpr c21
          by_cases c27 : (bt a0 x4_1) = 9
          ·rw [if_pos c27] at H
           have c27b0 : ((bt a0 x4_1) == 9) = true:=beq_iff_eq.mpr c27
           have c27b1 : ((bt a0 x4_1) != 9) = false:=bne_eq_false_iff_eq.mpr c27
           clear c27
           obtain ⟨y130,hy130⟩ : ∃ y_ : List Int,y_ = (([92,116] : List Int)):=⟨_,rfl⟩
           replace H : (if x3_1.length + y130.length < 140737488355328 then (bosunref06_Quote.l0 kj6 a0 (x3_1 ++ y130) (wrap64 (x4_1 + 1))) else (none)) = some r:=by first|(rw [hy130];with_reducible exact H)|(have H2_:=(Option.bind_some _ _).symm.trans H;rw [hy130];with_reducible exact H2_)|(have H2_:=(Option.bind_some _ _).symm.trans H;with_reducible exact H2_)|with_reducible exact H|(rw [hy130];exact H)|exact H
           have Ny130:=Aside0.mk hy130
           clear hy130
           by_cases c28 : x3_1.length + y130.length < 140737488355328
           ·rw [if_pos c28] at H
            have LMc28:=Aside0.mk c28
            clear c28
            obtain ⟨y133,hy133⟩ : ∃ y_ : List Int,y_ = (x3_1 ++ y130):=⟨_,rfl⟩
            replace H : (bosunref06_Quote.l0 kj6 a0 y133 (wrap64 (x4_1 + 1))) = some r:=by first|(rw [hy133];with_reducible exact H)|(have H2_:=(Option.bind_some _ _).symm.trans H;rw [hy133];with_reducible exact H2_)|(have H2_:=(Option.bind_some _ _).symm.trans H;with_reducible exact H2_)|with_reducible exact H|(rw [hy133];exact H)|exact H
            have Ny133:=Aside0.mk hy133
            clear hy133
            have H':=Aside0.mk H
            clear H
            go_wp2_with (first|((with_reducible refine gate_dst (N:=47) rfl ?_);refine Kd.R_lit (Kd.int .u8) _ 5 ?hg (N:=47) ?hd (xs:=([92,116] : List Int)) (inner:=[.int .u8 92,.int .u8 116]) (ok:=fun _=>True) (okp:=fun _=>True) ?hr ?hp (fun _ hk=>hk) trivial (Below.refl _ _) (Nat.le_refl _) (by simp) ?_;(case hd=>rfl);(case hg=>rfl);(case hr=>first|(go_simp;done)|(go_simp;rfl));(case hp=>exact (Reps.one (show Kd.M (Kd.int .u8) _ _ _ 92 [.int .u8 92] from rfl) (Reps.one (show Kd.M (Kd.int .u8) _ _ _ 116 [.int .u8 116] from rfl) (Reps.none _ _))));intro v131 w29 ho30 hb hg_ hnew_;clear hg_ hnew_;(first|rw [← Ny130.out] at ho30|(simp only [Int.reduceToNat] at ho30;rw [← Ny130.out] at ho30));have n0_:=Aside0.mk (Kd.R_elder' (by (with_reducible repeat (first|apply Kd.R_alloc|apply Kd.R_drewN|apply Kd.R_drew));exact HO_3.out) (Kd.R_base ho30) hb);have n1_:=Aside0.mk (Kd.R_lower (Kd.R_new' ho30 (Kd.R_lt (by (with_reducible repeat (first|apply Kd.R_alloc|apply Kd.R_drewN|apply Kd.R_drew));exact HO_3.out))) (below_size (by repeat (first|(with_reducible first|exact HB.out|apply below_alloc|apply pw_below_drewN|apply below_drew1)|exact HB.out))));have n2_:=Aside0.mk (below_step (by repeat (first|(with_reducible first|exact HB.out|apply below_alloc|apply pw_below_drewN|apply below_drew1)|exact HB.out)) hb);clear HO_3;clear HB;have HO_3:=n0_;have HO132:=n1_;have HB:=n2_;clear n0_ n1_ n2_;clear hb ho30;obtain ⟨Ao32,co32,eo32⟩:=Kd.R_slice HO132.out;subst eo32)|((with_reducible refine gate_builtin (b:=.append) (xs:=#[.tmp 46,.tmp 47]) rfl ?_);at_builtin;refine Kd.R_append_rows (Kd.int .u8) (w0:=w) w.heap.size rfl (.tmp 46) (.tmp 47) 77 5 (.int .u8 0) 1 rfl Tryd.underlying77 info5 rfl (by decide) (by omega) u3 x3_1 y130 _ _ _ (fun k_=>some k_ ≠ (.slice Ao32 y130.length co32 : Value).ownBlock) (fun _=>False) rfl rfl ?aO ?aR (fun _ _ h=>h) (fun _ h=>h.elim) ?aF ?aB ?aS ?aL ?_;(case aR=>repeat (first|exact (Kd.R_reads' HO132.out).2.2|(with_reducible refine Kd.C_alloc ?_ _)|(with_reducible refine Kd.C_drewN ?_ _)|(with_reducible refine Kd.C_drew ?_)));(case aB=>exact (by repeat (first|(with_reducible first|exact HB.out|apply below_alloc|apply pw_below_drewN|apply below_drew1)|exact HB.out)));(case aF=>exact (fun k_ hk=>Kd.fresh' (Kd.R_lt (by (with_reducible repeat (first|apply Kd.R_alloc|apply Kd.R_drewN|apply Kd.R_drew));exact HO132.out)) k_ hk));(case aO=>exact (by (with_reducible repeat (first|apply Kd.R_alloc|apply Kd.R_drewN|apply Kd.R_drew));exact Kd.R_mono HO_3.out (fun _ hk=>hk.2)));(case aS=>exact (below_size (by repeat (first|(with_reducible first|exact HB.out|apply below_alloc|apply pw_below_drewN|apply below_drew1)|exact HB.out))));(case aL=>have:=LMc28.out;omega);intro v134 w31 ho hb hg hat;rw [← Ny133.out] at ho;have n0_:=Aside0.mk (Kd.R_after (ok:=(fun _=>True)) (by (with_reducible repeat (first|apply Kd.R_alloc|apply Kd.R_drewN|apply Kd.R_drew));exact HO132.out) hg hat);have n1_:=Aside0.mk (hb);have n2_:=Aside0.mk (ho);clear HO132;clear HB;clear HO_3;have HO132:=n0_;have HB:=n1_;have HO135:=n2_;clear n0_ n1_ n2_;clear ho hb hg hat))
            go_roundg kj6
            case measure=>have:=HK1.out;have:=HJ6.out;omega
            case rel=>exact ⟨(y133),(wrap64 (x4_1 + 1)),(by first|rfl|(simp;done)|(simp [*];done)),H',⟨by have:=HK1.out;have:=HJ6.out;omega⟩,⟨by (with_reducible repeat (first|apply Kd.R_alloc|apply Kd.R_drewN|apply Kd.R_drew));exact Kd.R_mono HO135.out (fun _ hk=>trivial)⟩,⟨by repeat (first|(with_reducible first|exact HB.out|apply below_alloc|apply pw_below_drewN|apply below_drew1)|exact HB.out)⟩⟩
           ·rw [if_neg c28] at H
            exact absurd H (by simp)
          ·rw [if_neg c27] at H
           have c27b0 : ((bt a0 x4_1) == 9) = false:=beq_eq_false_iff_ne.mpr c27
           have c27b1 : ((bt a0 x4_1) != 9) = true:=bne_iff_ne.mpr c27
           by_cases c33 : (bt a0 x4_1) = 8
           ·rw [if_pos c33] at H
            have c33b0 : ((bt a0 x4_1) == 8) = true:=beq_iff_eq.mpr c33
            have c33b1 : ((bt a0 x4_1) != 8) = false:=bne_eq_false_iff_eq.mpr c33
            clear c33
            obtain ⟨y136,hy136⟩ : ∃ y_ : List Int,y_ = (([92,98] : List Int)):=⟨_,rfl⟩
            replace H : (if x3_1.length + y136.length < 140737488355328 then (bosunref06_Quote.l0 kj6 a0 (x3_1 ++ y136) (wrap64 (x4_1 + 1))) else (none)) = some r:=by first|(rw [hy136];with_reducible exact H)|(have H2_:=(Option.bind_some _ _).symm.trans H;rw [hy136];with_reducible exact H2_)|(have H2_:=(Option.bind_some _ _).symm.trans H;with_reducible exact H2_)|with_reducible exact H|(rw [hy136];exact H)|exact H
            have Ny136:=Aside0.mk hy136
            clear hy136
            by_cases c34 : x3_1.length + y136.length < 140737488355328
            ·rw [if_pos c34] at H
             have LMc34:=Aside0.mk c34
             clear c34
             obtain ⟨y139,hy139⟩ : ∃ y_ : List Int,y_ = (x3_1 ++ y136):=⟨_,rfl⟩
             replace H : (bosunref06_Quote.l0 kj6 a0 y139 (wrap64 (x4_1 + 1))) = some r:=by first|(rw [hy139];with_reducible exact H)|(have H2_:=(Option.bind_some _ _).symm.trans H;rw [hy139];with_reducible exact H2_)|(have H2_:=(Option.bind_some _ _).symm.trans H;with_reducible exact H2_)|with_reducible exact H|(rw [hy139];exact H)|exact H
             have Ny139:=Aside0.mk hy139
             clear hy139
             have H':=Aside0.mk H
             clear H
             go_wp2_with (first|((with_reducible refine gate_dst (N:=53) rfl ?_);refine Kd.R_lit (Kd.int .u8) _ 5 ?hg (N:=53) ?hd (xs:=([92,98] : List Int)) (inner:=[.int .u8 92,.int .u8 98]) (ok:=fun _=>True) (okp:=fun _=>True) ?hr ?hp (fun _ hk=>hk) trivial (Below.refl _ _) (Nat.le_refl _) (by simp) ?_;(case hd=>rfl);(case hg=>rfl);(case hr=>first|(go_simp;done)|(go_simp;rfl));(case hp=>exact (Reps.one (show Kd.M (Kd.int .u8) _ _ _ 92 [.int .u8 92] from rfl) (Reps.one (show Kd.M (Kd.int .u8) _ _ _ 98 [.int .u8 98] from rfl) (Reps.none _ _))));intro v137 w35 ho36 hb hg_ hnew_;clear hg_ hnew_;(first|rw [← Ny136.out] at ho36|(simp only [Int.reduceToNat] at ho36;rw [← Ny136.out] at ho36));have n0_:=Aside0.mk (Kd.R_elder' (by (with_reducible repeat (first|apply Kd.R_alloc|apply Kd.R_drewN|apply Kd.R_drew));exact HO_3.out) (Kd.R_base ho36) hb);have n1_:=Aside0.mk (Kd.R_lower (Kd.R_new' ho36 (Kd.R_lt (by (with_reducible repeat (first|apply Kd.R_alloc|apply Kd.R_drewN|apply Kd.R_drew));exact HO_3.out))) (below_size (by repeat (first|(with_reducible first|exact HB.out|apply below_alloc|apply pw_below_drewN|apply below_drew1)|exact HB.out))));have n2_:=Aside0.mk (below_step (by repeat (first|(with_reducible first|exact HB.out|apply below_alloc|apply pw_below_drewN|apply below_drew1)|exact HB.out)) hb);clear HO_3;clear HB;have HO_3:=n0_;have HO138:=n1_;have HB:=n2_;clear n0_ n1_ n2_;clear hb ho36;obtain ⟨Ao38,co38,eo38⟩:=Kd.R_slice HO138.out;subst eo38)|((with_reducible refine gate_builtin (b:=.append) (xs:=#[.tmp 52,.tmp 53]) rfl ?_);at_builtin;refine Kd.R_append_rows (Kd.int .u8) (w0:=w) w.heap.size rfl (.tmp 52) (.tmp 53) 77 5 (.int .u8 0) 1 rfl Tryd.underlying77 info5 rfl (by decide) (by omega) u3 x3_1 y136 _ _ _ (fun k_=>some k_ ≠ (.slice Ao38 y136.length co38 : Value).ownBlock) (fun _=>False) rfl rfl ?aO ?aR (fun _ _ h=>h) (fun _ h=>h.elim) ?aF ?aB ?aS ?aL ?_;(case aR=>repeat (first|exact (Kd.R_reads' HO138.out).2.2|(with_reducible refine Kd.C_alloc ?_ _)|(with_reducible refine Kd.C_drewN ?_ _)|(with_reducible refine Kd.C_drew ?_)));(case aB=>exact (by repeat (first|(with_reducible first|exact HB.out|apply below_alloc|apply pw_below_drewN|apply below_drew1)|exact HB.out)));(case aF=>exact (fun k_ hk=>Kd.fresh' (Kd.R_lt (by (with_reducible repeat (first|apply Kd.R_alloc|apply Kd.R_drewN|apply Kd.R_drew));exact HO138.out)) k_ hk));(case aO=>exact (by (with_reducible repeat (first|apply Kd.R_alloc|apply Kd.R_drewN|apply Kd.R_drew));exact Kd.R_mono HO_3.out (fun _ hk=>hk.2)));(case aS=>exact (below_size (by repeat (first|(with_reducible first|exact HB.out|apply below_alloc|apply pw_below_drewN|apply below_drew1)|exact HB.out))));(case aL=>have:=LMc34.out;omega);intro v140 w37 ho hb hg hat;rw [← Ny139.out] at ho;have n0_:=Aside0.mk (Kd.R_after (ok:=(fun _=>True)) (by (with_reducible repeat (first|apply Kd.R_alloc|apply Kd.R_drewN|apply Kd.R_drew));exact HO138.out) hg hat);have n1_:=Aside0.mk (hb);have n2_:=Aside0.mk (ho);clear HO138;clear HB;clear HO_3;have HO138:=n0_;have HB:=n1_;have HO141:=n2_;clear n0_ n1_ n2_;clear ho hb hg hat))
             go_roundg kj6
             case measure=>have:=HK1.out;have:=HJ6.out;omega
             case rel=>exact ⟨(y139),(wrap64 (x4_1 + 1)),(by first|rfl|(simp;done)|(simp [*];done)),H',⟨by have:=HK1.out;have:=HJ6.out;omega⟩,⟨by (with_reducible repeat (first|apply Kd.R_alloc|apply Kd.R_drewN|apply Kd.R_drew));exact Kd.R_mono HO141.out (fun _ hk=>trivial)⟩,⟨by repeat (first|(with_reducible first|exact HB.out|apply below_alloc|apply pw_below_drewN|apply below_drew1)|exact HB.out)⟩⟩
            ·rw [if_neg c34] at H
             exact absurd H (by simp)
           ·rw [if_neg c33] at H
            have c33b0 : ((bt a0 x4_1) == 8) = false:=beq_eq_false_iff_ne.mpr c33
            have c33b1 : ((bt a0 x4_1) != 8) = true:=bne_iff_ne.mpr c33
            by_cases c39 : (bt a0 x4_1) = 12
            ·rw [if_pos c39] at H
             have c39b0 : ((bt a0 x4_1) == 12) = true:=beq_iff_eq.mpr c39
             have c39b1 : ((bt a0 x4_1) != 12) = false:=bne_eq_false_iff_eq.mpr c39
             clear c39
             obtain ⟨y142,hy142⟩ : ∃ y_ : List Int,y_ = (([92,102] : List Int)):=⟨_,rfl⟩
             replace H : (if x3_1.length + y142.length < 140737488355328 then (bosunref06_Quote.l0 kj6 a0 (x3_1 ++ y142) (wrap64 (x4_1 + 1))) else (none)) = some r:=by first|(rw [hy142];with_reducible exact H)|(have H2_:=(Option.bind_some _ _).symm.trans H;rw [hy142];with_reducible exact H2_)|(have H2_:=(Option.bind_some _ _).symm.trans H;with_reducible exact H2_)|with_reducible exact H|(rw [hy142];exact H)|exact H
             have Ny142:=Aside0.mk hy142
             clear hy142
             by_cases c40 : x3_1.length + y142.length < 140737488355328
             ·rw [if_pos c40] at H
              have LMc40:=Aside0.mk c40
              clear c40
              obtain ⟨y145,hy145⟩ : ∃ y_ : List Int,y_ = (x3_1 ++ y142):=⟨_,rfl⟩
              replace H : (bosunref06_Quote.l0 kj6 a0 y145 (wrap64 (x4_1 + 1))) = some r:=by first|(rw [hy145];with_reducible exact H)|(have H2_:=(Option.bind_some _ _).symm.trans H;rw [hy145];with_reducible exact H2_)|(have H2_:=(Option.bind_some _ _).symm.trans H;with_reducible exact H2_)|with_reducible exact H|(rw [hy145];exact H)|exact H
              have Ny145:=Aside0.mk hy145
              clear hy145
              have H':=Aside0.mk H
              clear H
              go_wp2_with (first|((with_reducible refine gate_dst (N:=59) rfl ?_);refine Kd.R_lit (Kd.int .u8) _ 5 ?hg (N:=59) ?hd (xs:=([92,102] : List Int)) (inner:=[.int .u8 92,.int .u8 102]) (ok:=fun _=>True) (okp:=fun _=>True) ?hr ?hp (fun _ hk=>hk) trivial (Below.refl _ _) (Nat.le_refl _) (by simp) ?_;(case hd=>rfl);(case hg=>rfl);(case hr=>first|(go_simp;done)|(go_simp;rfl));(case hp=>exact (Reps.one (show Kd.M (Kd.int .u8) _ _ _ 92 [.int .u8 92] from rfl) (Reps.one (show Kd.M (Kd.int .u8) _ _ _ 102 [.int .u8 102] from rfl) (Reps.none _ _))));intro v143 w41 ho42 hb hg_ hnew_;clear hg_ hnew_;(first|rw [← Ny142.out] at ho42|(simp only [Int.reduceToNat] at ho42;rw [← Ny142.out] at ho42));have n0_:=Aside0.mk (Kd.R_elder' (by (with_reducible repeat (first|apply Kd.R_alloc|apply Kd.R_drewN|apply Kd.R_drew));exact HO_3.out) (Kd.R_base ho42) hb);have n1_:=Aside0.mk (Kd.R_lower (Kd.R_new' ho42 (Kd.R_lt (by (with_reducible repeat (first|apply Kd.R_alloc|apply Kd.R_drewN|apply Kd.R_drew));exact HO_3.out))) (below_size (by repeat (first|(with_reducible first|exact HB.out|apply below_alloc|apply pw_below_drewN|apply below_drew1)|exact HB.out))));have n2_:=Aside0.mk (below_step (by repeat (first|(with_reducible first|exact HB.out|apply below_alloc|apply pw_below_drewN|apply below_drew1)|exact HB.out)) hb);clear HO_3;clear HB;have HO_3:=n0_;have HO144:=n1_;have HB:=n2_;clear n0_ n1_ n2_;clear hb ho42;obtain ⟨Ao44,co44,eo44⟩:=Kd.R_slice HO144.out;subst eo44)|((with_reducible refine gate_builtin (b:=.append) (xs:=#[.tmp 58,.tmp 59]) rfl ?_);at_builtin;refine Kd.R_append_rows (Kd.int .u8) (w0:=w) w.heap.size rfl (.tmp 58) (.tmp 59) 77 5 (.int .u8 0) 1 rfl Tryd.underlying77 info5 rfl (by decide) (by omega) u3 x3_1 y142 _ _ _ (fun k_=>some k_ ≠ (.slice Ao44 y142.length co44 : Value).ownBlock) (fun _=>False) rfl rfl ?aO ?aR (fun _ _ h=>h) (fun _ h=>h.elim) ?aF ?aB ?aS ?aL ?_;(case aR=>repeat (first|exact (Kd.R_reads' HO144.out).2.2|(with_reducible refine Kd.C_alloc ?_ _)|(with_reducible refine Kd.C_drewN ?_ _)|(with_reducible refine Kd.C_drew ?_)));(case aB=>exact (by repeat (first|(with_reducible first|exact HB.out|apply below_alloc|apply pw_below_drewN|apply below_drew1)|exact HB.out)));(case aF=>exact (fun k_ hk=>Kd.fresh' (Kd.R_lt (by (with_reducible repeat (first|apply Kd.R_alloc|apply Kd.R_drewN|apply Kd.R_drew));exact HO144.out)) k_ hk));(case aO=>exact (by (with_reducible repeat (first|apply Kd.R_alloc|apply Kd.R_drewN|apply Kd.R_drew));exact Kd.R_mono HO_3.out (fun _ hk=>hk.2)));(case aS=>exact (below_size (by repeat (first|(with_reducible first|exact HB.out|apply below_alloc|apply pw_below_drewN|apply below_drew1)|exact HB.out))));(case aL=>have:=LMc40.out;omega);intro v146 w43 ho hb hg hat;rw [← Ny145.out] at ho;have n0_:=Aside0.mk (Kd.R_after (ok:=(fun _=>True)) (by (with_reducible repeat (first|apply Kd.R_alloc|apply Kd.R_drewN|apply Kd.R_drew));exact HO144.out) hg hat);have n1_:=Aside0.mk (hb);have n2_:=Aside0.mk (ho);clear HO144;clear HB;clear HO_3;have HO144:=n0_;have HB:=n1_;have HO147:=n2_;clear n0_ n1_ n2_;clear ho hb hg hat))
              go_roundg kj6
              case measure=>have:=HK1.out;have:=HJ6.out;omega
              case rel=>exact ⟨(y145),(wrap64 (x4_1 + 1)),(by first|rfl|(simp;done)|(simp [*];done)),H',⟨by have:=HK1.out;have:=HJ6.out;omega⟩,⟨by (with_reducible repeat (first|apply Kd.R_alloc|apply Kd.R_drewN|apply Kd.R_drew));exact Kd.R_mono HO147.out (fun _ hk=>trivial)⟩,⟨by repeat (first|(with_reducible first|exact HB.out|apply below_alloc|apply pw_below_drewN|apply below_drew1)|exact HB.out)⟩⟩
             ·rw [if_neg c40] at H
              exact absurd H (by simp)
            ·rw [if_neg c39] at H
             have c39b0 : ((bt a0 x4_1) == 12) = false:=beq_eq_false_iff_ne.mpr c39
             have c39b1 : ((bt a0 x4_1) != 12) = true:=bne_iff_ne.mpr c39
             by_cases c45 : (bt a0 x4_1) < 32
             ·rw [if_pos c45] at H
              have c45b0 : decide ((bt a0 x4_1) < 32) = true:=decide_eq_true c45
              clear c45
              replace H:=Option.bind_eq_some_iff.mp H
              obtain ⟨t148,A460,H⟩:=H
              replace H : ((bosunref06_hex.f (Int.tmod (wrap64 ((bt a0 x4_1))) 16)).bind fun t149=>((some (([92,117,48,48,t148,t149] : List Int) : List Int)).bind fun y150=>(if x3_1.length + y150.length < 140737488355328 then (bosunref06_Quote.l0 kj6 a0 (x3_1 ++ y150) (wrap64 (x4_1 + 1))) else (none)))) = some r:=H
              have A46:=Aside0.mk A460
              clear A460
              replace H:=Option.bind_eq_some_iff.mp H
              obtain ⟨t149,A470,H⟩:=H
              replace H : ((some (([92,117,48,48,t148,t149] : List Int) : List Int)).bind fun y150=>(if x3_1.length + y150.length < 140737488355328 then (bosunref06_Quote.l0 kj6 a0 (x3_1 ++ y150) (wrap64 (x4_1 + 1))) else (none))) = some r:=H
              have A47:=Aside0.mk A470
              clear A470
              obtain ⟨y150,hy150⟩ : ∃ y_ : List Int,y_ = (([92,117,48,48,t148,t149] : List Int)):=⟨_,rfl⟩
              replace H : (if x3_1.length + y150.length < 140737488355328 then (bosunref06_Quote.l0 kj6 a0 (x3_1 ++ y150) (wrap64 (x4_1 + 1))) else (none)) = some r:=by first|(rw [hy150];with_reducible exact H)|(have H2_:=(Option.bind_some _ _).symm.trans H;rw [hy150];with_reducible exact H2_)|(have H2_:=(Option.bind_some _ _).symm.trans H;with_reducible exact H2_)|with_reducible exact H|(rw [hy150];exact H)|exact H
              have Ny150:=Aside0.mk hy150
              clear hy150
              by_cases c48 : x3_1.length + y150.length < 140737488355328
              ·rw [if_pos c48] at H
               have LMc48:=Aside0.mk c48
               clear c48
               obtain ⟨y153,hy153⟩ : ∃ y_ : List Int,y_ = (x3_1 ++ y150):=⟨_,rfl⟩
               replace H : (bosunref06_Quote.l0 kj6 a0 y153 (wrap64 (x4_1 + 1))) = some r:=by first|(rw [hy153];with_reducible exact H)|(have H2_:=(Option.bind_some _ _).symm.trans H;rw [hy153];with_reducible exact H2_)|(have H2_:=(Option.bind_some _ _).symm.trans H;with_reducible exact H2_)|with_reducible exact H|(rw [hy153];exact H)|exact H
               have Ny153:=Aside0.mk hy153
               clear hy153
               have H':=Aside0.mk H
               clear H
               go_wp2_with (first|((with_reducible refine gate_callee (f:=57) rfl ?_);refine goesL_ (some 68) rfl rfl Tryd.func57 (by kernel_rfl) rfl #[.int .i64 (wrap64 (Int.tdiv (wrap64 ((bt a0 x4_1))) 16))] rfl (by (try simp only [List.map_toArray,List.map_cons,List.map_nil]);first|done|rfl|(simp only [List.length_drop,List.length_take];rfl)|(simp (disch:=first|omega|(simp at *;omega)) only [u64_id,i64_id,u8_id];rfl)) ?_;(with_reducible refine (bosunref06_hex.calls (wrap64 (Int.tdiv (wrap64 ((bt a0 x4_1))) 16)) t148 _ A46.out).mono ?_);rintro e w' ⟨rfl,⟨nd,rfl⟩⟩;refine ⟨_,rfl,?_⟩)|((with_reducible refine gate_callee (f:=57) rfl ?_);refine goesL_ (some 72) rfl rfl Tryd.func57 (by kernel_rfl) rfl #[.int .i64 (Int.tmod (wrap64 ((bt a0 x4_1))) 16)] rfl (by (try simp only [List.map_toArray,List.map_cons,List.map_nil]);first|done|rfl|(simp only [List.length_drop,List.length_take];rfl)|(simp (disch:=first|omega|(simp at *;omega)) only [u64_id,i64_id,u8_id];rfl)) ?_;(with_reducible refine (bosunref06_hex.calls (Int.tmod (wrap64 ((bt a0 x4_1))) 16) t149 _ A47.out).mono ?_);rintro e w' ⟨rfl,⟨nd,rfl⟩⟩;refine ⟨_,rfl,?_⟩)|((with_reducible refine gate_dst (N:=73) rfl ?_);refine Kd.R_lit (Kd.int .u8) _ 5 ?hg (N:=73) ?hd (xs:=([92,117,48,48,t148,t149] : List Int)) (inner:=[.int .u8 92,.int .u8 117,.int .u8 48,.int .u8 48,.int .u8 t148,.int .u8 t149]) (ok:=fun _=>True) (okp:=fun _=>True) ?hr ?hp (fun _ hk=>hk) trivial (Below.refl _ _) (Nat.le_refl _) (by simp) ?_;(case hd=>rfl);(case hg=>rfl);(case hr=>first|(go_simp;done)|(go_simp;rfl));(case hp=>exact (Reps.one (show Kd.M (Kd.int .u8) _ _ _ 92 [.int .u8 92] from rfl) (Reps.one (show Kd.M (Kd.int .u8) _ _ _ 117 [.int .u8 117] from rfl) (Reps.one (show Kd.M (Kd.int .u8) _ _ _ 48 [.int .u8 48] from rfl) (Reps.one (show Kd.M (Kd.int .u8) _ _ _ 48 [.int .u8 48] from rfl) (Reps.one (show Kd.M (Kd.int .u8) _ _ _ t148 [.int .u8 t148] from rfl) (Reps.one (show Kd.M (Kd.int .u8) _ _ _ t149 [.int .u8 t149] from rfl) (Reps.none _ _))))))));intro v151 w49 ho50 hb hg_ hnew_;clear hg_ hnew_;(first|rw [← Ny150.out] at ho50|(simp only [Int.reduceToNat] at ho50;rw [← Ny150.out] at ho50));have n0_:=Aside0.mk (Kd.R_elder' (by (with_reducible repeat (first|apply Kd.R_alloc|apply Kd.R_drewN|apply Kd.R_drew));exact HO_3.out) (Kd.R_base ho50) hb);have n1_:=Aside0.mk (Kd.R_lower (Kd.R_new' ho50 (Kd.R_lt (by (with_reducible repeat (first|apply Kd.R_alloc|apply Kd.R_drewN|apply Kd.R_drew));exact HO_3.out))) (below_size (by repeat (first|(with_reducible first|exact HB.out|apply below_alloc|apply pw_below_drewN|apply below_drew1)|exact HB.out))));have n2_:=Aside0.mk (below_step (by repeat (first|(with_reducible first|exact HB.out|apply below_alloc|apply pw_below_drewN|apply below_drew1)|exact HB.out)) hb);clear HO_3;clear HB;have HO_3:=n0_;have HO152:=n1_;have HB:=n2_;clear n0_ n1_ n2_;clear hb ho50;obtain ⟨Ao52,co52,eo52⟩:=Kd.R_slice HO152.out;subst eo52)|((with_reducible refine gate_builtin (b:=.append) (xs:=#[.tmp 64,.tmp 73]) rfl ?_);at_builtin;refine Kd.R_append_rows (Kd.int .u8) (w0:=w) w.heap.size rfl (.tmp 64) (.tmp 73) 77 5 (.int .u8 0) 1 rfl Tryd.underlying77 info5 rfl (by decide) (by omega) u3 x3_1 y150 _ _ _ (fun k_=>some k_ ≠ (.slice Ao52 y150.length co52 : Value).ownBlock) (fun _=>False) rfl rfl ?aO ?aR (fun _ _ h=>h) (fun _ h=>h.elim) ?aF ?aB ?aS ?aL ?_;(case aR=>repeat (first|exact (Kd.R_reads' HO152.out).2.2|(with_reducible refine Kd.C_alloc ?_ _)|(with_reducible refine Kd.C_drewN ?_ _)|(with_reducible refine Kd.C_drew ?_)));(case aB=>exact (by repeat (first|(with_reducible first|exact HB.out|apply below_alloc|apply pw_below_drewN|apply below_drew1)|exact HB.out)));(case aF=>exact (fun k_ hk=>Kd.fresh' (Kd.R_lt (by (with_reducible repeat (first|apply Kd.R_alloc|apply Kd.R_drewN|apply Kd.R_drew));exact HO152.out)) k_ hk));(case aO=>exact (by (with_reducible repeat (first|apply Kd.R_alloc|apply Kd.R_drewN|apply Kd.R_drew));exact Kd.R_mono HO_3.out (fun _ hk=>hk.2)));(case aS=>exact (below_size (by repeat (first|(with_reducible first|exact HB.out|apply below_alloc|apply pw_below_drewN|apply below_drew1)|exact HB.out))));(case aL=>have:=LMc48.out;omega);intro v154 w51 ho hb hg hat;rw [← Ny153.out] at ho;have n0_:=Aside0.mk (Kd.R_after (ok:=(fun _=>True)) (by (with_reducible repeat (first|apply Kd.R_alloc|apply Kd.R_drewN|apply Kd.R_drew));exact HO152.out) hg hat);have n1_:=Aside0.mk (hb);have n2_:=Aside0.mk (ho);clear HO152;clear HB;clear HO_3;have HO152:=n0_;have HB:=n1_;have HO155:=n2_;clear n0_ n1_ n2_;clear ho hb hg hat))
               go_roundg kj6
               case measure=>have:=HK1.out;have:=HJ6.out;omega
               case rel=>exact ⟨(y153),(wrap64 (x4_1 + 1)),(by first|rfl|(simp;done)|(simp [*];done)),H',⟨by have:=HK1.out;have:=HJ6.out;omega⟩,⟨by (with_reducible repeat (first|apply Kd.R_alloc|apply Kd.R_drewN|apply Kd.R_drew));exact Kd.R_mono HO155.out (fun _ hk=>trivial)⟩,⟨by repeat (first|(with_reducible first|exact HB.out|apply below_alloc|apply pw_below_drewN|apply below_drew1)|exact HB.out)⟩⟩
              ·rw [if_neg c48] at H
               exact absurd H (by simp)
             ·rw [if_neg c45] at H
              have c45b0 : decide ((bt a0 x4_1) < 32) = false:=decide_eq_false c45
              clear c45
              by_cases c53 : x3_1.length < 140737488355328
              ·rw [if_pos c53] at H
               have LMc53:=Aside0.mk c53
               clear c53
               obtain ⟨y156,hy156⟩ : ∃ y_ : List Int,y_ = (x3_1 ++ [(bt a0 x4_1)]):=⟨_,rfl⟩
               replace H : (bosunref06_Quote.l0 kj6 a0 y156 (wrap64 (x4_1 + 1))) = some r:=by first|(rw [hy156];with_reducible exact H)|(have H2_:=(Option.bind_some _ _).symm.trans H;rw [hy156];with_reducible exact H2_)|(have H2_:=(Option.bind_some _ _).symm.trans H;with_reducible exact H2_)|with_reducible exact H|(rw [hy156];exact H)|exact H
               have Ny156:=Aside0.mk hy156
               clear hy156
               have H':=Aside0.mk H
               clear H
               go_wp2_with (first|((with_reducible refine gate_builtin (b:=.append) (xs:=#[.tmp 16,.tmp 18]) rfl ?_);at_builtin;refine Kd.R_append (Kd.int .u8) (w0:=w) w.heap.size rfl (.tmp 16) (.tmp 18) 77 5 (.int .u8 0) 1 rfl Tryd.underlying77 info5 rfl (by decide) (by omega) u3 x3_1 (bt a0 x4_1) [.int .u8 (bt a0 x4_1)] (fun _=>True) (fun _=>False) rfl rfl ?aP (fun _ hk=>hk.elim) ?aF ?aO ?aB ?aS ?aL ?_;(case aP=>exact rfl);(case aB=>exact (by repeat (first|(with_reducible first|exact HB.out|apply below_alloc|apply pw_below_drewN|apply below_drew1)|exact HB.out)));(case aF=>exact (fun _ _=>trivial));(case aO=>exact (by (with_reducible repeat (first|apply Kd.R_alloc|apply Kd.R_drewN|apply Kd.R_drew));exact HO_3.out));(case aS=>exact (below_size (by repeat (first|(with_reducible first|exact HB.out|apply below_alloc|apply pw_below_drewN|apply below_drew1)|exact HB.out))));(case aL=>have:=LMc53.out;omega);intro v157 w54 ho hb hg hat;rw [← Ny156.out] at ho;have n0_:=Aside0.mk (hb);have n1_:=Aside0.mk (ho);clear HB;clear HO_3;have HB:=n0_;have HO158:=n1_;clear n0_ n1_;clear ho hb hg hat))
               go_roundg kj6
               case measure=>have:=HK1.out;have:=HJ6.out;omega
               case rel=>exact ⟨(y156),(wrap64 (x4_1 + 1)),(by first|rfl|(simp;done)|(simp [*];done)),H',⟨by have:=HK1.out;have:=HJ6.out;omega⟩,⟨by (with_reducible repeat (first|apply Kd.R_alloc|apply Kd.R_drewN|apply Kd.R_drew));exact HO158.out⟩,⟨by repeat (first|(with_reducible first|exact HB.out|apply below_alloc|apply pw_below_drewN|apply below_drew1)|exact HB.out)⟩⟩
              ·rw [if_neg c53] at H
               exact absurd H (by simp)
    ·rw [if_neg c5] at H
     exact absurd H (by simp)
   ·rw [if_neg c4] at H
    have c4b0 : decide (x4_1 < (a0.size : Int)) = false:=decide_eq_false c4
    clear c4
    by_cases c55 : x3_1.length < 140737488355328
    ·rw [if_pos c55] at H
     have LMc55:=Aside0.mk c55
     clear c55
     obtain ⟨y109,hy109⟩ : ∃ y_ : List Int,y_ = (x3_1 ++ [34]):=⟨_,rfl⟩
     replace H : (some (strOfNums y109)) = some r:=by first|(rw [hy109];with_reducible exact H)|(have H2_:=(Option.bind_some _ _).symm.trans H;rw [hy109];with_reducible exact H2_)|(have H2_:=(Option.bind_some _ _).symm.trans H;with_reducible exact H2_)|with_reducible exact H|(rw [hy109];exact H)|exact H
     have Ny109:=Aside0.mk hy109
     clear hy109
     obtain rfl:=Option.some.inj H
     go_wp2_with (first|((with_reducible refine gate_builtin (b:=.append) (xs:=#[.tmp 75,.tmp 76]) rfl ?_);at_builtin;refine Kd.R_append (Kd.int .u8) (w0:=w) w.heap.size rfl (.tmp 75) (.tmp 76) 77 5 (.int .u8 0) 1 rfl Tryd.underlying77 info5 rfl (by decide) (by omega) u3 x3_1 34 [.int .u8 34] (fun _=>True) (fun _=>False) rfl rfl ?aP (fun _ hk=>hk.elim) ?aF ?aO ?aB ?aS ?aL ?_;(case aP=>exact rfl);(case aB=>exact (by repeat (first|(with_reducible first|exact HB.out|apply below_alloc|apply pw_below_drewN|apply below_drew1)|exact HB.out)));(case aF=>exact (fun _ _=>trivial));(case aO=>exact (by (with_reducible repeat (first|apply Kd.R_alloc|apply Kd.R_drewN|apply Kd.R_drew));exact HO_3.out));(case aS=>exact (below_size (by repeat (first|(with_reducible first|exact HB.out|apply below_alloc|apply pw_below_drewN|apply below_drew1)|exact HB.out))));(case aL=>have:=LMc55.out;omega);intro v110 w56 ho hb hg hat;rw [← Ny109.out] at ho;have n0_:=Aside0.mk (hb);have n1_:=Aside0.mk (ho);clear HB;clear HO_3;have HB:=n0_;have HO111:=n1_;clear n0_ n1_;clear ho hb hg hat;have hcv57:=own_string (P:=Tryd.prog) Tryd.underlying77 Tryd.underlying5 Tryd.underlying9 (Kd.own_of_R HO111.out)))
     go_ret
     exact ⟨by first|rfl|(simp [errW_none,errW_some] <;> rfl)|(simp [*,errW_none,errW_some] <;> rfl),by repeat (first|(with_reducible first|exact HB.out|apply below_alloc|apply pw_below_drewN|apply below_drew1)|exact HB.out)⟩
    ·rw [if_neg c55] at H
     exact absurd H (by simp)

end Go.Proofs.YtenbeniaohigmaaDoor.GUt
