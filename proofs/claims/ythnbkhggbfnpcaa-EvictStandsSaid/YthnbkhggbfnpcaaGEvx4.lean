/- Written by this session's own program (wip/gen.py) out of the translation: plain Lean functions of the Go functions, and proofs that the calls come to their answers. No conditions beside those in the statements. -/
import Derived.Test.YthnbkhggbfnpcaaGEvx0
import Derived.Test.YthnbkhggbfnpcaaEvRAhead
namespace Go.Proofs.Ythnbkhggbfnpcaa.GEv
open Go.RowKit Go.Proofs.YthnbkhggbfnpcaaW.PrintWords Go.Proofs.YthnbkhggbfnpcaaW.PrintLast Go.Proofs.YthnbkhggbfnpcaaW.PrintMore
attribute [local go_sem] max2_int min2_int max_two min_two max_three min_three max_four min_four   -- for this text's walks alone
set_option linter.unusedVariables false
set_option linter.unusedSimpArgs false

/-! ### bosunref24_Order: function 21 -/
mutual
def bosunref24_Order.l0 : Nat → List (S39) → List (S39) → Option ((List (S39)))
 | 0,_,_=>none
 | k + 1,x3,x4=>if (x3.length : Int) > 0 then (bosunref24_Order.l1 k x3 x4 0 1) else (some x4)
def bosunref24_Order.l1 : Nat → List (S39) → List (S39) → Int → Int → Option ((List (S39)))
 | 0,_,_,_,_=>none
 | k + 1,x3,x4,x5,x6=>if x6 < (x3.length : Int) then (if 0 ≤ x6 then (if 0 ≤ x5 then (if x5 < (x3.length : Int) then ((bosunref24_Ahead.f ((rd_T39 x3 x6).f0) ((rd_T39 x3 x6).f1) ((rd_T39 x3 x6).f2) ((rd_T39 x3 x5).f0) ((rd_T39 x3 x5).f1) ((rd_T39 x3 x5).f2)).bind fun t129=>(if t129 = true then (bosunref24_Order.l1 k x3 x4 x6 (wrap64 (x6 + 1))) else (bosunref24_Order.l1 k x3 x4 x5 (wrap64 (x6 + 1))))) else (none)) else (none)) else (none)) else (if 0 ≤ x5 then (if x5 < (x3.length : Int) then (if x4.length < 4398046511104 then (if x5 ≤ (x3.length : Int) then (if 0 ≤ (wrap64 (x5 + 1)) then (if (wrap64 (x5 + 1)) ≤ (x3.length : Int) then (bosunref24_Order.l0 k (x3.eraseIdx (x5 : Int).toNat) (x4 ++ [(⟨(rd_T39 x3 x5).f0,(rd_T39 x3 x5).f1,(rd_T39 x3 x5).f2⟩ : S39)])) else (none)) else (none)) else (none)) else (none)) else (none)) else (none))
end
def bosunref24_Order.f (k : Nat) (l0 : List (S39)) : Option ((List (S39))):=(some (([] : List (S39)) : List (S39))).bind fun y121=>(if y121.length + l0.length < 4398046511104 then (bosunref24_Order.l0 k (y121 ++ l0) ([] : List (S39))) else (none))
theorem bosunref24_Order.mono_l : ∀ k,(∀ y0 y1,LeO (bosunref24_Order.l0 k y0 y1) (bosunref24_Order.l0 (k + 1) y0 y1)) ∧ (∀ y0 y1 y2 y3,LeO (bosunref24_Order.l1 k y0 y1 y2 y3) (bosunref24_Order.l1 (k + 1) y0 y1 y2 y3))
 | 0=>⟨fun _ _ r h=>by simp [bosunref24_Order.l0] at h,fun _ _ _ _ r h=>by simp [bosunref24_Order.l1] at h⟩
 | k + 1=>by
  obtain ⟨ih0,ih1⟩:=bosunref24_Order.mono_l k
  refine ⟨?_,?_⟩
  ·intro y0 y1
   unfold bosunref24_Order.l0
   repeat' first
   | (with_reducible exact ih0 _ _)
   | (with_reducible exact ih1 _ _ _ _)
   | (with_reducible exact LeO.refl _)
   | (with_reducible exact LeO.none _)
   | (with_reducible refine LeO.ite ?_ ?_)
   | (with_reducible refine LeO.bind ?_ (fun _=>?_))
   | exact ih0 _ _
   | exact ih1 _ _ _ _
   | exact LeO.none _
   | refine LeO.ite ?_ ?_
   | refine LeO.bind ?_ (fun _=>?_)
  ·intro y0 y1 y2 y3
   unfold bosunref24_Order.l1
   repeat' first
   | (with_reducible exact ih0 _ _)
   | (with_reducible exact ih1 _ _ _ _)
   | (with_reducible exact LeO.refl _)
   | (with_reducible exact LeO.none _)
   | (with_reducible refine LeO.ite ?_ ?_)
   | (with_reducible refine LeO.bind ?_ (fun _=>?_))
   | exact ih0 _ _
   | exact ih1 _ _ _ _
   | exact LeO.none _
   | refine LeO.ite ?_ ?_
   | refine LeO.bind ?_ (fun _=>?_)
theorem bosunref24_Order.mono : ∀ a0 k,LeO (bosunref24_Order.f k a0) (bosunref24_Order.f (k + 1) a0):=by
 intro a0 k
 obtain ⟨ih0,ih1⟩:=bosunref24_Order.mono_l k
 unfold bosunref24_Order.f
 repeat' first
   | (with_reducible exact ih0 _ _)
   | (with_reducible exact ih1 _ _ _ _)
   | (with_reducible exact LeO.refl _)
   | (with_reducible exact LeO.none _)
   | (with_reducible refine LeO.ite ?_ ?_)
   | (with_reducible refine LeO.bind ?_ (fun _=>?_))
   | exact ih0 _ _
   | exact ih1 _ _ _ _
   | exact LeO.none _
   | refine LeO.ite ?_ ?_
   | refine LeO.bind ?_ (fun _=>?_)
def bosunref24_Order.T8 : Bool × List (List Nat × List Nat):=(true,[([],[]),([],[]),([0,1],[0,1]),([2],[2]),([],[]),([],[]),([4,5],[4,5]),([6],[6]),([3,7],[3,7])])
def bosunref24_Order.B8 : List Nat:=[0,0,3,7,0,0,48,112,255]
theorem bosunref24_Order.tab8 : rtab .any (opsOf Try.f21 8) = bosunref24_Order.T8:=by kernel_rfl
theorem bosunref24_Order.bits8 : waitsOk bosunref24_Order.T8.2 bosunref24_Order.B8 = true:=by kernel_rfl
def bosunref24_Order.T11 : Bool × List (List Nat × List Nat):=(true,[([],[]),([],[]),([0,1],[0,1]),([],[]),([],[]),([4],[4]),([3,5],[3,5]),([2,6],[2,6]),([7,7,0,1,2,3,4,5,6,7],[0,3,7])])
def bosunref24_Order.B11 : List Nat:=[0,0,3,0,0,16,56,127,255]
theorem bosunref24_Order.tab11 : rtab .any (opsOf Try.f21 11) = bosunref24_Order.T11:=by kernel_rfl
theorem bosunref24_Order.bits11 : waitsOk bosunref24_Order.T11.2 bosunref24_Order.B11 = true:=by kernel_rfl
set_option maxHeartbeats 8000000 in
set_option maxRecDepth 100000 in
theorem bosunref24_Order.calls (k : Nat) (A0 : Option Addr) (c0 : Nat) (l0 : List (S39)) (r : List (S39)) (w : World) (hr0 : Kd.C k39 w A0 l0.length l0) (hc0 : l0.length ≤ c0) (h : bosunref24_Order.f k l0 = some r) :
  Calls Try.prog 21 #[.slice A0 l0.length c0] w fun e w'=>∃ v0_ : Value,e = .returned (v0_) ∧ Kd.R k39 39 w' w.heap.size (fun _=>True) v0_ r ∧ Below w.heap.size w w':=by
 have hu39:=Try.underlying39
 have HR0:=Aside0.mk hr0
 have HC0:=Aside0.mk hc0
 clear hr0 hc0
 have HB:=Aside0.mk (Below.refl w.heap.size w)
 have H : ((some (([] : List (S39)) : List (S39))).bind fun y121=>(if y121.length + l0.length < 4398046511104 then (bosunref24_Order.l0 k (y121 ++ l0) ([] : List (S39))) else (none))) = some r:=h
 clear h
 obtain ⟨y121,hy121⟩ : ∃ y_ : List (S39),y_ = (([] : List (S39))):=⟨_,rfl⟩
 replace H : (if y121.length + l0.length < 4398046511104 then (bosunref24_Order.l0 k (y121 ++ l0) ([] : List (S39))) else (none)) = some r:=by first|(rw [hy121];with_reducible exact H)|(have H2_:=(Option.bind_some _ _).symm.trans H;rw [hy121];with_reducible exact H2_)|(have H2_:=(Option.bind_some _ _).symm.trans H;with_reducible exact H2_)|with_reducible exact H|(rw [hy121];exact H)|exact H
 have Ny121:=Aside0.mk hy121
 clear hy121
 by_cases c2 : y121.length + l0.length < 4398046511104
 ·rw [if_pos c2] at H
  have LMc2:=Aside0.mk c2
  clear c2
  obtain ⟨y124,hy124⟩ : ∃ y_ : List (S39),y_ = (y121 ++ l0):=⟨_,rfl⟩
  replace H : (bosunref24_Order.l0 k y124 ([] : List (S39))) = some r:=by first|(rw [hy124];with_reducible exact H)|(have H2_:=(Option.bind_some _ _).symm.trans H;rw [hy124];with_reducible exact H2_)|(have H2_:=(Option.bind_some _ _).symm.trans H;with_reducible exact H2_)|with_reducible exact H|(rw [hy124];exact H)|exact H
  have Ny124:=Aside0.mk hy124
  clear hy124
  have H':=Aside0.mk H
  clear H
  go_enter Try.func21,Try.ntmps21
  go_wp2_with (first|((with_reducible refine gate_dst (N:=7) rfl ?_);refine Kd.R_lit k39 _ 39 ?hg (N:=7) ?hd (xs:=([] : List (S39))) (inner:=[]) (ok:=fun _=>True) (okp:=fun _=>True) ?hr ?hp (fun _ hk=>hk) trivial (Below.refl _ _) (Nat.le_refl _) (by simp) ?_;(case hd=>rfl);(case hg=>rfl);(case hr=>first|(go_simp;done)|(go_simp;rfl));(case hp=>exact (Reps.none _ _));intro v122 w3 ho4 hb hg_ hnew_;clear hg_ hnew_;(first|rw [← Ny121.out] at ho4|(simp only [Int.reduceToNat] at ho4;rw [← Ny121.out] at ho4));have n0_:=Aside0.mk (Kd.R_lower ho4 (below_size (by repeat (first|(with_reducible first|exact HB.out|apply below_alloc|apply pw_below_drewN|apply below_drew1)|exact HB.out))));have n1_:=Aside0.mk (below_step (by repeat (first|(with_reducible first|exact HB.out|apply below_alloc|apply pw_below_drewN|apply below_drew1)|exact HB.out)) hb);clear HB;have HO123:=n0_;have HB:=n1_;clear n0_ n1_;clear hb ho4)|((with_reducible refine gate_builtin (b:=.append) (xs:=#[.tmp 7,.tmp 8]) rfl ?_);at_builtin;refine Kd.R_append_rows k39 (w0:=w) w.heap.size rfl (.tmp 7) (.tmp 8) 36 39 (.agg #[(.string ⟨#[]⟩),(.float .f64 0),(.float .f64 0)]) 32 rfl Try.underlying36 info39 rfl (by decide) (by omega) v122 y121 l0 _ _ _ (fun _=>True) (fun _=>False) rfl rfl ?aO ?aR (fun _ _ h=>h) (fun _ h=>h.elim) ?aF ?aB ?aS ?aL ?_;(case aR=>repeat (first|exact (Kd.C_below HR0.out HB.out)|(with_reducible refine Kd.C_alloc ?_ _)|(with_reducible refine Kd.C_drewN ?_ _)|(with_reducible refine Kd.C_drew ?_)));(case aB=>exact (by repeat (first|(with_reducible first|exact HB.out|apply below_alloc|apply pw_below_drewN|apply below_drew1)|exact HB.out)));(case aF=>exact (fun _ _=>trivial));(case aO=>exact (by (with_reducible repeat (first|apply Kd.R_alloc|apply Kd.R_drewN|apply Kd.R_drew));exact HO123.out));(case aS=>exact (below_size (by repeat (first|(with_reducible first|exact HB.out|apply below_alloc|apply pw_below_drewN|apply below_drew1)|exact HB.out))));(case aL=>have:=LMc2.out;omega);intro v125 w5 ho hb hg hat;rw [← Ny124.out] at ho;have n0_:=Aside0.mk (hb);have n1_:=Aside0.mk (ho);clear HB;clear HO123;have HB:=n0_;have HO126:=n1_;clear n0_ n1_;clear ho hb hg hat))
  go_loopg [3,4] k (fun kq v3 v4 w'=>∃ (x3_1 : List (S39)) (x4_1 : List (S39)),Aside0 (bosunref24_Order.l0 kq x3_1 x4_1 = some r) ∧ Aside0 (kq ≤ k) ∧ Aside0 (Kd.R k39 39 w' w.heap.size (fun k_=>some k_ ≠ (v4 : Value).ownBlock) v3 x3_1) ∧ Aside0 (Kd.R k39 39 w' w.heap.size (fun k_=>some k_ ≠ (v3 : Value).ownBlock) v4 x4_1) ∧ Aside0 (Below w.heap.size w w'))
  case atStart=>exact ⟨(y124),(([] : List (S39))),H',⟨Nat.le_refl _⟩,⟨by (with_reducible repeat (first|apply Kd.R_alloc|apply Kd.R_drewN|apply Kd.R_drew));exact Kd.R_mono HO126.out (fun _ hk=>(by simp [Value.ownBlock]))⟩,⟨by first|exact Kd.R_nil _ _ _ _ _|exact Kd.N_nil _ _ _ _ _|exact Kd.V_nil _ _ _ _ _|exact Kd.Q_nil _ _ _ _ _|exact Kd.S_nil _ _ _ _ _⟩,⟨by repeat (first|(with_reducible first|exact HB.out|apply below_alloc|apply pw_below_drewN|apply below_drew1)|exact HB.out)⟩⟩
  case round =>
   clear H'
   try clear c2
   try clear p2
   obtain ⟨x3_1,x4_1,HA,HK1,HO_3,HO_4,HB⟩:=hrel
   cases gk with
   | zero=>exact absurd HA.out (by simp [bosunref24_Order.l0])
   | succ k1 =>
    have H:=HA.out
    clear HA
    simp only [bosunref24_Order.l0] at H
    by_cases c6 : (x3_1.length : Int) > 0
    ·rw [if_pos c6] at H
     have c6b0 : decide (0 < (x3_1.length : Int)) = true:=decide_eq_true c6
     have c6b1 : decide (0 < x3_1.length) = true:=decide_eq_true (by omega)
     clear c6
     have H':=Aside0.mk H
     clear H
     obtain ⟨Ao7,co7,eo7⟩:=Kd.R_slice HO_3.out
     subst eo7
     go_wp2
     go_loopg [5,6] k1 (fun kq v5 v6 w'=>∃ (x5_2 : Int) (x6_2 : Int),v5 = .int .i64 x5_2 ∧ v6 = .int .i64 x6_2 ∧ Aside0 (bosunref24_Order.l1 kq x3_1 x4_1 x5_2 x6_2 = some r) ∧ Aside0 (kq ≤ k1) ∧ Aside0 (Kd.R k39 39 w' w.heap.size (fun k_=>some k_ ≠ (u4 : Value).ownBlock) (.slice Ao7 x3_1.length co7) x3_1) ∧ Aside0 (Kd.R k39 39 w' w.heap.size (fun k_=>some k_ ≠ ((.slice Ao7 x3_1.length co7) : Value).ownBlock) u4 x4_1) ∧ Aside0 (Below w.heap.size w w'))
     case atStart=>exact ⟨(0),(1),(by first|rfl|(simp;done)|(simp [*];done)),(by first|rfl|(simp;done)|(simp [*];done)),H',⟨Nat.le_refl _⟩,⟨by (with_reducible repeat (first|apply Kd.R_alloc|apply Kd.R_drewN|apply Kd.R_drew));exact HO_3.out⟩,⟨by (with_reducible repeat (first|apply Kd.R_alloc|apply Kd.R_drewN|apply Kd.R_drew));exact HO_4.out⟩,⟨by repeat (first|(with_reducible first|exact HB.out|apply below_alloc|apply pw_below_drewN|apply below_drew1)|exact HB.out)⟩⟩
     case round =>
      clear H'
      try clear c2
      try clear p2
      try clear c6
      try clear c6b0
      try clear c6b1
      try clear p2
      obtain ⟨x5_2,x6_2,rfl,rfl,HA,HK2,HO_3,HO_4,HB⟩:=hrel
      cases gk with
      | zero=>exact absurd HA.out (by simp [bosunref24_Order.l1])
      | succ k2 =>
       have H:=HA.out
       clear HA
       simp only [bosunref24_Order.l1] at H
       by_cases c8 : x6_2 < (x3_1.length : Int)
       ·rw [if_pos c8] at H
        have c8b0 : decide (x6_2 < (x3_1.length : Int)) = true:=decide_eq_true c8
        clear c8
        by_cases c9 : 0 ≤ x6_2
        ·rw [if_pos c9] at H
         have c9b0 : decide (0 ≤ x6_2) = true:=decide_eq_true c9
         clear c9
         by_cases c10 : 0 ≤ x5_2
         ·rw [if_pos c10] at H
          have c10b0 : decide (0 ≤ x5_2) = true:=decide_eq_true c10
          clear c10
          by_cases c11 : x5_2 < (x3_1.length : Int)
          ·rw [if_pos c11] at H
           have c11b0 : decide (x5_2 < (x3_1.length : Int)) = true:=decide_eq_true c11
           clear c11
           replace H:=Option.bind_eq_some_iff.mp H
           obtain ⟨t129,A120,H⟩:=H
           replace H : (if t129 = true then (bosunref24_Order.l1 k2 x3_1 x4_1 x6_2 (wrap64 (x6_2 + 1))) else (bosunref24_Order.l1 k2 x3_1 x4_1 x5_2 (wrap64 (x6_2 + 1)))) = some r:=H
           have A12:=Aside0.mk A120
           clear A120
           by_cases c13 : t129 = true
           ·subst c13
            have H1 : (bosunref24_Order.l1 k2 x3_1 x4_1 x6_2 (wrap64 (x6_2 + 1))) = some r:=by rw [if_pos rfl] at H;exact H
            clear H
            have H:=H1
            clear H1
            have H':=Aside0.mk H
            clear H
            try go_wp2
            have n0_:=Aside0.mk (Kd.R_drew HO_3.out)
            have n1_:=Aside0.mk (Kd.R_drew HO_4.out)
            have n2_:=Aside0.mk (below_drew1 HB.out)
            clear HO_3
            clear HO_4
            clear HB
            have HO_3:=n0_
            have HO_4:=n1_
            have HB:=n2_
            clear n0_ n1_ n2_
            have p127 : 0 ≤ (x6_2 : Int):=of_decide_eq_true (by first|(with_reducible assumption)|assumption)
            have q127 : x6_2 < (x3_1.length : Int):=of_decide_eq_true (by first|(with_reducible assumption)|assumption)
            obtain ⟨ad127,e127,hx127_0,hx127_1,hx127_2⟩:=at_T39 (Kd.R_reads' HO_3.out).2.2 x6_2 p127 q127
            cases e127
            replace p127:=eq_true p127
            replace q127:=eq_true q127
            have p128 : 0 ≤ (x5_2 : Int):=of_decide_eq_true (by first|(with_reducible assumption)|assumption)
            have q128 : x5_2 < (x3_1.length : Int):=of_decide_eq_true (by first|(with_reducible assumption)|assumption)
            obtain ⟨ad128,e128,hx128_0,hx128_1,hx128_2⟩:=at_T39 (Kd.R_reads' HO_3.out).2.2 x5_2 p128 q128
            obtain rfl : ad127 = ad128:=(by injection e128)
            replace p128:=eq_true p128
            replace q128:=eq_true q128
            refine start_ (n:=9) (S:=fun w'=>w'.cell? (ad127.add ((x6_2).toNat * 3)) = some (.string ((rd_T39 x3_1 x6_2).f0)) ∧ w'.cell? ⟨(ad127.add ((x6_2).toNat * 3)).block,(ad127.add ((x6_2).toNat * 3)).off + 1,none⟩ = some (.float .f64 ((rd_T39 x3_1 x6_2).f1)) ∧ w'.cell? ⟨(ad127.add ((x6_2).toNat * 3)).block,(ad127.add ((x6_2).toNat * 3)).off + 2,none⟩ = some (.float .f64 ((rd_T39 x3_1 x6_2).f2)) ∧ w'.cell? (ad127.add ((x5_2).toNat * 3)) = some (.string ((rd_T39 x3_1 x5_2).f0)) ∧ w'.cell? ⟨(ad127.add ((x5_2).toNat * 3)).block,(ad127.add ((x5_2).toNat * 3)).off + 1,none⟩ = some (.float .f64 ((rd_T39 x3_1 x5_2).f1)) ∧ w'.cell? ⟨(ad127.add ((x5_2).toNat * 3)).block,(ad127.add ((x5_2).toNat * 3)).off + 2,none⟩ = some (.float .f64 ((rd_T39 x3_1 x5_2).f2))) (ds:=[]) #[false,false,false,false,false,false,false,false,false] (by kernel_rfl) rfl rfl ⟨hx127_0,hx127_1,hx127_2,hx128_0,hx128_1,hx128_2⟩ (fun hHeld=>?_);refine with_tabW bosunref24_Order.tab8 bosunref24_Order.bits8 (fun HT_ HW_=>?_)
            generalize wr.drew = w14 at HO_3 HO_4 HB hx127_0 hx127_1 hx127_2 hx128_0 hx128_1 hx128_2 hHeld ⊢
            refine pure_ (i:=0) (N:=some 19) (v:=?_) (a':=?_) #[true,false,false,false,false,false,false,false,false] rfl rfl (any_of HT_.out (by kernel_rfl)) (fun _ _ _ h=>h) (Or.inl ⟨by rfl,?_⟩) ?_ ?_
            rotate_left
            ·intro w'
             go_simp
             with_reducible rfl
            rotate_left
            ·simp only [Act.put,List.setIfInBounds_toArray,List.set_cons_zero,List.set_cons_succ,i64_w,i32_w]
             rfl
            refine pure_ (i:=1) (N:=some 20) (v:=?_) (a':=?_) #[true,true,false,false,false,false,false,false,false] rfl rfl (any_of HT_.out (by kernel_rfl)) (fun _ _ _ h=>h) (Or.inl ⟨by rfl,?_⟩) ?_ ?_
            rotate_left
            ·intro w'
             go_simp
             with_reducible rfl
            rotate_left
            ·simp only [Act.put,List.setIfInBounds_toArray,List.set_cons_zero,List.set_cons_succ,i64_w,i32_w]
             rfl
            refine pure_ (i:=2) (N:=some 21) (v:=?_) (a':=?_) #[true,true,true,false,false,false,false,false,false] rfl rfl (any_of HT_.out (by kernel_rfl)) (fun _ _ _ h=>h) (Or.inl ⟨by rfl,?_⟩) ?_ ?_
            rotate_left
            ·intro w'
             go_simp
             with_reducible rfl
            rotate_left
            ·simp only [Act.put,List.setIfInBounds_toArray,List.set_cons_zero,List.set_cons_succ,i64_w,i32_w]
             rfl
            refine pure_ (i:=4) (N:=some 23) (v:=?_) (a':=?_) #[true,true,true,false,true,false,false,false,false] rfl rfl (any_of HT_.out (by kernel_rfl)) (fun _ _ _ h=>h) (Or.inl ⟨by rfl,?_⟩) ?_ ?_
            rotate_left
            ·intro w'
             go_simp
             with_reducible rfl
            rotate_left
            ·simp only [Act.put,List.setIfInBounds_toArray,List.set_cons_zero,List.set_cons_succ,i64_w,i32_w]
             rfl
            refine pure_ (i:=5) (N:=some 24) (v:=?_) (a':=?_) #[true,true,true,false,true,true,false,false,false] rfl rfl (any_of HT_.out (by kernel_rfl)) (fun _ _ _ h=>h) (Or.inl ⟨by rfl,?_⟩) ?_ ?_
            rotate_left
            ·intro w'
             go_simp
             with_reducible rfl
            rotate_left
            ·simp only [Act.put,List.setIfInBounds_toArray,List.set_cons_zero,List.set_cons_succ,i64_w,i32_w]
             rfl
            refine pure_ (i:=6) (N:=some 25) (v:=?_) (a':=?_) #[true,true,true,false,true,true,true,false,false] rfl rfl (any_of HT_.out (by kernel_rfl)) (fun _ _ _ h=>h) (Or.inl ⟨by rfl,?_⟩) ?_ ?_
            rotate_left
            ·intro w'
             go_simp
             with_reducible rfl
            rotate_left
            ·simp only [Act.put,List.setIfInBounds_toArray,List.set_cons_zero,List.set_cons_succ,i64_w,i32_w]
             rfl
            refine take_ (i:=3) (N:=some 22) (v:=?_) (a':=?_) #[true,true,true,true,true,true,true,false,false] rfl rfl (take_ofW HT_.out HW_.out (by kernel_rfl)) (fun _ _ _ h=>h) (Or.inl ⟨by rfl,?_⟩) hHeld ?_ ?_
            rotate_left
            ·rintro w' ⟨s0,s1,s2,s3,s4,s5⟩
             go_simp
             with_reducible rfl
            rotate_left
            ·simp only [Act.put,List.setIfInBounds_toArray,List.set_cons_zero,List.set_cons_succ,i64_w,i32_w]
             rfl
            refine take_ (i:=7) (N:=some 26) (v:=?_) (a':=?_) #[true,true,true,true,true,true,true,true,false] rfl rfl (take_ofW HT_.out HW_.out (by kernel_rfl)) (fun _ _ _ h=>h) (Or.inl ⟨by rfl,?_⟩) hHeld ?_ ?_
            rotate_left
            ·rintro w' ⟨s0,s1,s2,s3,s4,s5⟩
             go_simp
             with_reducible rfl
            rotate_left
            ·simp only [Act.put,List.setIfInBounds_toArray,List.set_cons_zero,List.set_cons_succ,i64_w,i32_w]
             rfl
            refine one_ (i:=8) (N:=some 27) #[true,true,true,true,true,true,true,true,true] rfl rfl (one_of HT_.out (by kernel_rfl)) (by decide) (fun K hK=>?_)
            refine goes_ Try.func12 (by kernel_rfl) rfl #[.agg #[.string ((rd_T39 x3_1 x6_2).f0),.float .f64 ((rd_T39 x3_1 x6_2).f1),.float .f64 ((rd_T39 x3_1 x6_2).f2)],.agg #[.string ((rd_T39 x3_1 x5_2).f0),.float .f64 ((rd_T39 x3_1 x5_2).f1),.float .f64 ((rd_T39 x3_1 x5_2).f2)]] (by rfl) rfl rfl (by (try simp only [List.map_toArray,List.map_cons,List.map_nil]);first|done|rfl|(simp only [List.length_drop,List.length_take];rfl)) ?_
            with_reducible refine (bosunref24_Ahead.calls ((rd_T39 x3_1 x6_2).f0) ((rd_T39 x3_1 x6_2).f1) ((rd_T39 x3_1 x6_2).f2) ((rd_T39 x3_1 x5_2).f0) ((rd_T39 x3_1 x5_2).f1) ((rd_T39 x3_1 x5_2).f2) true _ A12.out).mono ?_
            rintro e w15 ⟨rfl,hb⟩
            have HS0_:=(hb.cell (World.block_lt_of_cell? _ _ (hHeld.1))).trans (hHeld.1)
            have HS1_:=(hb.cell (World.block_lt_of_cell? _ _ (hHeld.2.1))).trans (hHeld.2.1)
            have HS2_:=(hb.cell (World.block_lt_of_cell? _ _ (hHeld.2.2.1))).trans (hHeld.2.2.1)
            have HS3_:=(hb.cell (World.block_lt_of_cell? _ _ (hHeld.2.2.2.1))).trans (hHeld.2.2.2.1)
            have HS4_:=(hb.cell (World.block_lt_of_cell? _ _ (hHeld.2.2.2.2.1))).trans (hHeld.2.2.2.2.1)
            have HS5_:=(hb.cell (World.block_lt_of_cell? _ _ (hHeld.2.2.2.2.2))).trans (hHeld.2.2.2.2.2)
            refine ⟨_,rfl,?_⟩
            have n0_:=Aside0.mk (Kd.R_below (by (with_reducible repeat (first|apply Kd.R_alloc|apply Kd.R_drewN|apply Kd.R_drew));exact HO_3.out) hb)
            have n1_:=Aside0.mk (Kd.R_below (by (with_reducible repeat (first|apply Kd.R_alloc|apply Kd.R_drewN|apply Kd.R_drew));exact HO_4.out) hb)
            have n2_:=Aside0.mk (below_step (by repeat (first|(with_reducible first|exact HB.out|apply below_alloc|apply pw_below_drewN|apply below_drew1)|exact HB.out)) hb)
            clear HO_3
            clear HO_4
            clear HB
            have HO_3:=n0_
            have HO_4:=n1_
            have HB:=n2_
            clear n0_ n1_ n2_
            (try clear hb)
            (try clear hb2)
            (try clear hk)
            (try clear hi)
            refine hK.out _ _ ⟨HS0_,HS1_,HS2_,HS3_,HS4_,HS5_⟩ (fun hHeld=>?_)
            clear hK K
            refine norm_ (a':=?_) ?_ ?_
            rotate_left
            ·show Act.put _ (some 27) _ = _
             simp only [Act.put,List.setIfInBounds_toArray,List.set_cons_zero,List.set_cons_succ,i64_w,i32_w]
             rfl
            refine done_ (done_of HT_.out (by kernel_rfl)) ?_
            try go_wp2
            go_roundg k2
            case measure=>have:=HK1.out;have:=HK2.out;omega
            case rel=>exact ⟨(x6_2),(wrap64 (x6_2 + 1)),(by first|rfl|(simp;done)|(simp [*];done)),(by first|rfl|(simp;done)|(simp [*];done)),H',⟨by have:=HK1.out;have:=HK2.out;omega⟩,⟨by (with_reducible repeat (first|apply Kd.R_alloc|apply Kd.R_drewN|apply Kd.R_drew));exact HO_3.out⟩,⟨by (with_reducible repeat (first|apply Kd.R_alloc|apply Kd.R_drewN|apply Kd.R_drew));exact HO_4.out⟩,⟨by repeat (first|(with_reducible first|exact HB.out|apply below_alloc|apply pw_below_drewN|apply below_drew1)|exact HB.out)⟩⟩
           ·replace c13:=Bool.eq_false_iff.mpr c13
            subst c13
            have H1 : (bosunref24_Order.l1 k2 x3_1 x4_1 x5_2 (wrap64 (x6_2 + 1))) = some r:=by rw [if_neg (show ¬ (false = true) by decide)] at H;exact H
            clear H
            have H:=H1
            clear H1
            have H':=Aside0.mk H
            clear H
            try go_wp2
            have n0_:=Aside0.mk (Kd.R_drew HO_3.out)
            have n1_:=Aside0.mk (Kd.R_drew HO_4.out)
            have n2_:=Aside0.mk (below_drew1 HB.out)
            clear HO_3
            clear HO_4
            clear HB
            have HO_3:=n0_
            have HO_4:=n1_
            have HB:=n2_
            clear n0_ n1_ n2_
            have p127 : 0 ≤ (x6_2 : Int):=of_decide_eq_true (by first|(with_reducible assumption)|assumption)
            have q127 : x6_2 < (x3_1.length : Int):=of_decide_eq_true (by first|(with_reducible assumption)|assumption)
            obtain ⟨ad127,e127,hx127_0,hx127_1,hx127_2⟩:=at_T39 (Kd.R_reads' HO_3.out).2.2 x6_2 p127 q127
            cases e127
            replace p127:=eq_true p127
            replace q127:=eq_true q127
            have p128 : 0 ≤ (x5_2 : Int):=of_decide_eq_true (by first|(with_reducible assumption)|assumption)
            have q128 : x5_2 < (x3_1.length : Int):=of_decide_eq_true (by first|(with_reducible assumption)|assumption)
            obtain ⟨ad128,e128,hx128_0,hx128_1,hx128_2⟩:=at_T39 (Kd.R_reads' HO_3.out).2.2 x5_2 p128 q128
            obtain rfl : ad127 = ad128:=(by injection e128)
            replace p128:=eq_true p128
            replace q128:=eq_true q128
            refine start_ (n:=9) (S:=fun w'=>w'.cell? (ad127.add ((x6_2).toNat * 3)) = some (.string ((rd_T39 x3_1 x6_2).f0)) ∧ w'.cell? ⟨(ad127.add ((x6_2).toNat * 3)).block,(ad127.add ((x6_2).toNat * 3)).off + 1,none⟩ = some (.float .f64 ((rd_T39 x3_1 x6_2).f1)) ∧ w'.cell? ⟨(ad127.add ((x6_2).toNat * 3)).block,(ad127.add ((x6_2).toNat * 3)).off + 2,none⟩ = some (.float .f64 ((rd_T39 x3_1 x6_2).f2)) ∧ w'.cell? (ad127.add ((x5_2).toNat * 3)) = some (.string ((rd_T39 x3_1 x5_2).f0)) ∧ w'.cell? ⟨(ad127.add ((x5_2).toNat * 3)).block,(ad127.add ((x5_2).toNat * 3)).off + 1,none⟩ = some (.float .f64 ((rd_T39 x3_1 x5_2).f1)) ∧ w'.cell? ⟨(ad127.add ((x5_2).toNat * 3)).block,(ad127.add ((x5_2).toNat * 3)).off + 2,none⟩ = some (.float .f64 ((rd_T39 x3_1 x5_2).f2))) (ds:=[]) #[false,false,false,false,false,false,false,false,false] (by kernel_rfl) rfl rfl ⟨hx127_0,hx127_1,hx127_2,hx128_0,hx128_1,hx128_2⟩ (fun hHeld=>?_);refine with_tabW bosunref24_Order.tab8 bosunref24_Order.bits8 (fun HT_ HW_=>?_)
            generalize wr.drew = w16 at HO_3 HO_4 HB hx127_0 hx127_1 hx127_2 hx128_0 hx128_1 hx128_2 hHeld ⊢
            refine pure_ (i:=0) (N:=some 19) (v:=?_) (a':=?_) #[true,false,false,false,false,false,false,false,false] rfl rfl (any_of HT_.out (by kernel_rfl)) (fun _ _ _ h=>h) (Or.inl ⟨by rfl,?_⟩) ?_ ?_
            rotate_left
            ·intro w'
             go_simp
             with_reducible rfl
            rotate_left
            ·simp only [Act.put,List.setIfInBounds_toArray,List.set_cons_zero,List.set_cons_succ,i64_w,i32_w]
             rfl
            refine pure_ (i:=1) (N:=some 20) (v:=?_) (a':=?_) #[true,true,false,false,false,false,false,false,false] rfl rfl (any_of HT_.out (by kernel_rfl)) (fun _ _ _ h=>h) (Or.inl ⟨by rfl,?_⟩) ?_ ?_
            rotate_left
            ·intro w'
             go_simp
             with_reducible rfl
            rotate_left
            ·simp only [Act.put,List.setIfInBounds_toArray,List.set_cons_zero,List.set_cons_succ,i64_w,i32_w]
             rfl
            refine pure_ (i:=2) (N:=some 21) (v:=?_) (a':=?_) #[true,true,true,false,false,false,false,false,false] rfl rfl (any_of HT_.out (by kernel_rfl)) (fun _ _ _ h=>h) (Or.inl ⟨by rfl,?_⟩) ?_ ?_
            rotate_left
            ·intro w'
             go_simp
             with_reducible rfl
            rotate_left
            ·simp only [Act.put,List.setIfInBounds_toArray,List.set_cons_zero,List.set_cons_succ,i64_w,i32_w]
             rfl
            refine pure_ (i:=4) (N:=some 23) (v:=?_) (a':=?_) #[true,true,true,false,true,false,false,false,false] rfl rfl (any_of HT_.out (by kernel_rfl)) (fun _ _ _ h=>h) (Or.inl ⟨by rfl,?_⟩) ?_ ?_
            rotate_left
            ·intro w'
             go_simp
             with_reducible rfl
            rotate_left
            ·simp only [Act.put,List.setIfInBounds_toArray,List.set_cons_zero,List.set_cons_succ,i64_w,i32_w]
             rfl
            refine pure_ (i:=5) (N:=some 24) (v:=?_) (a':=?_) #[true,true,true,false,true,true,false,false,false] rfl rfl (any_of HT_.out (by kernel_rfl)) (fun _ _ _ h=>h) (Or.inl ⟨by rfl,?_⟩) ?_ ?_
            rotate_left
            ·intro w'
             go_simp
             with_reducible rfl
            rotate_left
            ·simp only [Act.put,List.setIfInBounds_toArray,List.set_cons_zero,List.set_cons_succ,i64_w,i32_w]
             rfl
            refine pure_ (i:=6) (N:=some 25) (v:=?_) (a':=?_) #[true,true,true,false,true,true,true,false,false] rfl rfl (any_of HT_.out (by kernel_rfl)) (fun _ _ _ h=>h) (Or.inl ⟨by rfl,?_⟩) ?_ ?_
            rotate_left
            ·intro w'
             go_simp
             with_reducible rfl
            rotate_left
            ·simp only [Act.put,List.setIfInBounds_toArray,List.set_cons_zero,List.set_cons_succ,i64_w,i32_w]
             rfl
            refine take_ (i:=3) (N:=some 22) (v:=?_) (a':=?_) #[true,true,true,true,true,true,true,false,false] rfl rfl (take_ofW HT_.out HW_.out (by kernel_rfl)) (fun _ _ _ h=>h) (Or.inl ⟨by rfl,?_⟩) hHeld ?_ ?_
            rotate_left
            ·rintro w' ⟨s0,s1,s2,s3,s4,s5⟩
             go_simp
             with_reducible rfl
            rotate_left
            ·simp only [Act.put,List.setIfInBounds_toArray,List.set_cons_zero,List.set_cons_succ,i64_w,i32_w]
             rfl
            refine take_ (i:=7) (N:=some 26) (v:=?_) (a':=?_) #[true,true,true,true,true,true,true,true,false] rfl rfl (take_ofW HT_.out HW_.out (by kernel_rfl)) (fun _ _ _ h=>h) (Or.inl ⟨by rfl,?_⟩) hHeld ?_ ?_
            rotate_left
            ·rintro w' ⟨s0,s1,s2,s3,s4,s5⟩
             go_simp
             with_reducible rfl
            rotate_left
            ·simp only [Act.put,List.setIfInBounds_toArray,List.set_cons_zero,List.set_cons_succ,i64_w,i32_w]
             rfl
            refine one_ (i:=8) (N:=some 27) #[true,true,true,true,true,true,true,true,true] rfl rfl (one_of HT_.out (by kernel_rfl)) (by decide) (fun K hK=>?_)
            refine goes_ Try.func12 (by kernel_rfl) rfl #[.agg #[.string ((rd_T39 x3_1 x6_2).f0),.float .f64 ((rd_T39 x3_1 x6_2).f1),.float .f64 ((rd_T39 x3_1 x6_2).f2)],.agg #[.string ((rd_T39 x3_1 x5_2).f0),.float .f64 ((rd_T39 x3_1 x5_2).f1),.float .f64 ((rd_T39 x3_1 x5_2).f2)]] (by rfl) rfl rfl (by (try simp only [List.map_toArray,List.map_cons,List.map_nil]);first|done|rfl|(simp only [List.length_drop,List.length_take];rfl)) ?_
            with_reducible refine (bosunref24_Ahead.calls ((rd_T39 x3_1 x6_2).f0) ((rd_T39 x3_1 x6_2).f1) ((rd_T39 x3_1 x6_2).f2) ((rd_T39 x3_1 x5_2).f0) ((rd_T39 x3_1 x5_2).f1) ((rd_T39 x3_1 x5_2).f2) false _ A12.out).mono ?_
            rintro e w17 ⟨rfl,hb⟩
            have HS0_:=(hb.cell (World.block_lt_of_cell? _ _ (hHeld.1))).trans (hHeld.1)
            have HS1_:=(hb.cell (World.block_lt_of_cell? _ _ (hHeld.2.1))).trans (hHeld.2.1)
            have HS2_:=(hb.cell (World.block_lt_of_cell? _ _ (hHeld.2.2.1))).trans (hHeld.2.2.1)
            have HS3_:=(hb.cell (World.block_lt_of_cell? _ _ (hHeld.2.2.2.1))).trans (hHeld.2.2.2.1)
            have HS4_:=(hb.cell (World.block_lt_of_cell? _ _ (hHeld.2.2.2.2.1))).trans (hHeld.2.2.2.2.1)
            have HS5_:=(hb.cell (World.block_lt_of_cell? _ _ (hHeld.2.2.2.2.2))).trans (hHeld.2.2.2.2.2)
            refine ⟨_,rfl,?_⟩
            have n0_:=Aside0.mk (Kd.R_below (by (with_reducible repeat (first|apply Kd.R_alloc|apply Kd.R_drewN|apply Kd.R_drew));exact HO_3.out) hb)
            have n1_:=Aside0.mk (Kd.R_below (by (with_reducible repeat (first|apply Kd.R_alloc|apply Kd.R_drewN|apply Kd.R_drew));exact HO_4.out) hb)
            have n2_:=Aside0.mk (below_step (by repeat (first|(with_reducible first|exact HB.out|apply below_alloc|apply pw_below_drewN|apply below_drew1)|exact HB.out)) hb)
            clear HO_3
            clear HO_4
            clear HB
            have HO_3:=n0_
            have HO_4:=n1_
            have HB:=n2_
            clear n0_ n1_ n2_
            (try clear hb)
            (try clear hb2)
            (try clear hk)
            (try clear hi)
            refine hK.out _ _ ⟨HS0_,HS1_,HS2_,HS3_,HS4_,HS5_⟩ (fun hHeld=>?_)
            clear hK K
            refine norm_ (a':=?_) ?_ ?_
            rotate_left
            ·show Act.put _ (some 27) _ = _
             simp only [Act.put,List.setIfInBounds_toArray,List.set_cons_zero,List.set_cons_succ,i64_w,i32_w]
             rfl
            refine done_ (done_of HT_.out (by kernel_rfl)) ?_
            try go_wp2
            go_roundg k2
            case measure=>have:=HK1.out;have:=HK2.out;omega
            case rel=>exact ⟨(x5_2),(wrap64 (x6_2 + 1)),(by first|rfl|(simp;done)|(simp [*];done)),(by first|rfl|(simp;done)|(simp [*];done)),H',⟨by have:=HK1.out;have:=HK2.out;omega⟩,⟨by (with_reducible repeat (first|apply Kd.R_alloc|apply Kd.R_drewN|apply Kd.R_drew));exact HO_3.out⟩,⟨by (with_reducible repeat (first|apply Kd.R_alloc|apply Kd.R_drewN|apply Kd.R_drew));exact HO_4.out⟩,⟨by repeat (first|(with_reducible first|exact HB.out|apply below_alloc|apply pw_below_drewN|apply below_drew1)|exact HB.out)⟩⟩
          ·rw [if_neg c11] at H
           exact absurd H (by simp)
         ·rw [if_neg c10] at H
          exact absurd H (by simp)
        ·rw [if_neg c9] at H
         exact absurd H (by simp)
       ·rw [if_neg c8] at H
        have c8b0 : decide (x6_2 < (x3_1.length : Int)) = false:=decide_eq_false c8
        clear c8
        by_cases c18 : 0 ≤ x5_2
        ·rw [if_pos c18] at H
         have c18b0 : decide (0 ≤ x5_2) = true:=decide_eq_true c18
         clear c18
         by_cases c19 : x5_2 < (x3_1.length : Int)
         ·rw [if_pos c19] at H
          have c19b0 : decide (x5_2 < (x3_1.length : Int)) = true:=decide_eq_true c19
          clear c19
          by_cases c20 : x4_1.length < 4398046511104
          ·rw [if_pos c20] at H
           have LMc20:=Aside0.mk c20
           clear c20
           obtain ⟨y131,hy131⟩ : ∃ y_ : List (S39),y_ = (x4_1 ++ [(⟨(rd_T39 x3_1 x5_2).f0,(rd_T39 x3_1 x5_2).f1,(rd_T39 x3_1 x5_2).f2⟩ : S39)]):=⟨_,rfl⟩
           replace H : (if x5_2 ≤ (x3_1.length : Int) then (if 0 ≤ (wrap64 (x5_2 + 1)) then (if (wrap64 (x5_2 + 1)) ≤ (x3_1.length : Int) then (bosunref24_Order.l0 k2 (x3_1.eraseIdx (x5_2 : Int).toNat) y131) else (none)) else (none)) else (none)) = some r:=by first|(rw [hy131];with_reducible exact H)|(have H2_:=(Option.bind_some _ _).symm.trans H;rw [hy131];with_reducible exact H2_)|(have H2_:=(Option.bind_some _ _).symm.trans H;with_reducible exact H2_)|with_reducible exact H|(rw [hy131];exact H)|exact H
           have Ny131:=Aside0.mk hy131
           clear hy131
           have c21b0:=eq_true (of_decide_eq_true (by first|(with_reducible assumption)|assumption) : 0 ≤ x5_2)
           by_cases c22 : x5_2 ≤ (x3_1.length : Int)
           ·rw [if_pos c22] at H
            have c22b0:=eq_true c22
            have c22b1 : decide (x5_2 ≤ (x3_1.length : Int)) = true:=decide_eq_true c22
            clear c22
            obtain ⟨y134,hy134⟩ : ∃ y_ : List (S39),y_ = (x3_1.take (x5_2 : Int).toNat):=⟨_,rfl⟩
            replace H : (if 0 ≤ (wrap64 (x5_2 + 1)) then (if (wrap64 (x5_2 + 1)) ≤ (x3_1.length : Int) then (bosunref24_Order.l0 k2 (x3_1.eraseIdx (x5_2 : Int).toNat) y131) else (none)) else (none)) = some r:=by first|(rw [hy134];with_reducible exact H)|(have H2_:=(Option.bind_some _ _).symm.trans H;rw [hy134];with_reducible exact H2_)|(have H2_:=(Option.bind_some _ _).symm.trans H;with_reducible exact H2_)|with_reducible exact H|(rw [hy134];exact H)|exact H
            have Ny134:=Aside0.mk hy134
            clear hy134
            obtain ⟨ji23,hji23⟩ : ∃ j_ : Int,(wrap64 (x5_2 + 1)) = j_:=⟨_,rfl⟩
            replace H : (if 0 ≤ (ji23) then (if (ji23) ≤ (x3_1.length : Int) then (bosunref24_Order.l0 k2 (x3_1.eraseIdx (x5_2 : Int).toNat) y131) else (none)) else (none)) = some r:=by first|(rw [hji23] at H;exact H)|(simp only [hji23] at H ⊢;exact H)
            have hji23w : (IntKind.i64.wrap (x5_2 + 1)) = ji23:=(i64_w _).trans hji23
            by_cases c24 : 0 ≤ (ji23)
            ·rw [if_pos c24] at H
             have c24b0:=eq_true c24
             have c24b1 : decide (0 ≤ (ji23)) = true:=decide_eq_true c24
             clear c24
             by_cases c25 : (ji23) ≤ (x3_1.length : Int)
             ·rw [if_pos c25] at H
              have c25b0:=eq_true c25
              have c25b1 : decide ((ji23) ≤ (x3_1.length : Int)) = true:=decide_eq_true c25
              clear c25
              obtain ⟨y138,hy138⟩ : ∃ y_ : List (S39),y_ = (x3_1.drop ((ji23) : Int).toNat):=⟨_,rfl⟩
              replace H : (bosunref24_Order.l0 k2 (x3_1.eraseIdx (x5_2 : Int).toNat) y131) = some r:=by first|(rw [hy138];with_reducible exact H)|(have H2_:=(Option.bind_some _ _).symm.trans H;rw [hy138];with_reducible exact H2_)|(have H2_:=(Option.bind_some _ _).symm.trans H;with_reducible exact H2_)|with_reducible exact H|(rw [hy138];exact H)|exact H
              have Ny138:=Aside0.mk hy138
              clear hy138
              obtain ⟨y142,hy142⟩ : ∃ y_ : List (S39),y_ = (x3_1.eraseIdx (x5_2 : Int).toNat):=⟨_,rfl⟩
              replace H : (bosunref24_Order.l0 k2 y142 y131) = some r:=by first|(rw [hy142];with_reducible exact H)|(have H2_:=(Option.bind_some _ _).symm.trans H;rw [hy142];with_reducible exact H2_)|(have H2_:=(Option.bind_some _ _).symm.trans H;with_reducible exact H2_)|with_reducible exact H|(rw [hy142];exact H)|exact H
              have Ny142:=Aside0.mk hy142
              clear hy142
              have H':=Aside0.mk H
              clear H
              have p130 : 0 ≤ (x5_2 : Int):=of_decide_eq_true (by first|(with_reducible assumption)|assumption)
              have q130 : x5_2 < (x3_1.length : Int):=of_decide_eq_true (by first|(with_reducible assumption)|assumption)
              obtain ⟨ad130,e130,hx130_0,hx130_1,hx130_2⟩:=at_T39 (Kd.R_reads' HO_3.out).2.2 x5_2 p130 q130
              cases e130
              replace p130:=eq_true p130
              replace q130:=eq_true q130
              try go_wp2_with (first|((with_reducible refine gate_builtin (b:=.append) (xs:=#[.tmp 29,.tmp 34]) rfl ?_);at_builtin;refine Kd.R_append k39 (w0:=w) w.heap.size rfl (.tmp 29) (.tmp 34) 36 39 (.agg #[(.string ⟨#[]⟩),(.float .f64 0),(.float .f64 0)]) 32 rfl Try.underlying36 info39 rfl (by decide) (by omega) u4 x4_1 (⟨(rd_T39 x3_1 x5_2).f0,(rd_T39 x3_1 x5_2).f1,(rd_T39 x3_1 x5_2).f2⟩ : S39) [.string ((rd_T39 x3_1 x5_2).f0),.float .f64 ((rd_T39 x3_1 x5_2).f1),.float .f64 ((rd_T39 x3_1 x5_2).f2)] (fun k_=>some k_ ≠ (.slice (some ad130) x3_1.length co7 : Value).ownBlock) (fun _=>False) rfl rfl ?aP (fun _ hk=>hk.elim) ?aF ?aO ?aB ?aS ?aL ?_;(case aP=>exact k39_mkM _ _ _ (⟨(rd_T39 x3_1 x5_2).f0,(rd_T39 x3_1 x5_2).f1,(rd_T39 x3_1 x5_2).f2⟩ : S39));(case aB=>exact (by repeat (first|(with_reducible first|exact HB.out|apply below_alloc|apply pw_below_drewN|apply below_drew1)|exact HB.out)));(case aF=>exact (fun k_ hk=>Kd.fresh' (Kd.R_lt (by (with_reducible repeat (first|apply Kd.R_alloc|apply Kd.R_drewN|apply Kd.R_drew));exact HO_3.out)) k_ hk));(case aO=>exact (by (with_reducible repeat (first|apply Kd.R_alloc|apply Kd.R_drewN|apply Kd.R_drew));exact HO_4.out));(case aS=>exact (below_size (by repeat (first|(with_reducible first|exact HB.out|apply below_alloc|apply pw_below_drewN|apply below_drew1)|exact HB.out))));(case aL=>have:=LMc20.out;omega);intro v132 w26 ho hb hg hat;rw [← Ny131.out] at ho;have n0_:=Aside0.mk (Kd.R_after (ok:=(fun _=>True)) (by (with_reducible repeat (first|apply Kd.R_alloc|apply Kd.R_drewN|apply Kd.R_drew));exact Kd.R_mono HO_3.out (fun _ hk=>⟨trivial,hk⟩)) hg hat);have n1_:=Aside0.mk (hb);have n2_:=Aside0.mk (ho);clear HO_3;clear HB;clear HO_4;have HO_3:=n0_;have HB:=n1_;have HO133:=n2_;clear n0_ n1_ n2_;clear ho hb hg hat))
              have n0_:=Aside0.mk (Kd.R_drew HO_3.out)
              have n1_:=Aside0.mk (Kd.R_drew HO133.out)
              have n2_:=Aside0.mk (below_drew1 HB.out)
              clear HO_3
              clear HO133
              clear HB
              have HO_3:=n0_
              have HO133:=n1_
              have HB:=n2_
              clear n0_ n1_ n2_
              have q28 : (x5_2 : Int) ≤ ((x3_1.length : Int) : Int):=of_decide_eq_true (by first|(with_reducible assumption)|assumption)
              obtain ⟨i028,hi028,_,hsz28,_⟩:=info_parts info39
              have hroom28 : x3_1.length ≤ co7:=(Kd.R_reads' HO_3.out).2.1
              have hC28 : Kd.C k39 _ (some ad130) x3_1.length x3_1:=(Kd.R_reads' HO_3.out).2.2
              have hcut28:=cut_to (P:=Try.prog) 36 39 .i64 Try.underlying36 hi028 (some ad130) x3_1.length co7 x5_2 (of_decide_eq_true (by first|(with_reducible assumption)|assumption)) q28 hroom28
              have hr28:=Kd.C_take (m:=(x5_2 : Int).toNat) hC28 (by omega)
              have hy28 : y134.length = (x5_2 : Int).toNat:=(by rw [Ny134.out,List.length_take];omega)
              rw [← Ny134.out] at hr28
              rw [← hy28] at hcut28
              have HR137:=Aside0.mk hr28
              have HC137:=Aside0.mk (show y134.length ≤ co7 from by omega)
              clear hr28 hC28 hroom28 hi028 hsz28
              have KY28:=Aside0.mk hy28
              clear hy28
              have KL28:=Aside0.mk (show (x5_2 : Int).toNat ≤ x3_1.length from by omega)
              replace q28:=eq_true q28
              have q29 : ((ji23) : Int) ≤ ((x3_1.length : Int) : Int):=of_decide_eq_true (by first|(with_reducible assumption)|assumption)
              obtain ⟨i029,hi029,_,hsz29,_⟩:=info_parts info39
              have hroom29 : x3_1.length ≤ co7:=(Kd.R_reads' HO_3.out).2.1
              have hC29 : Kd.C k39 _ (some ad130) x3_1.length x3_1:=(Kd.R_reads' HO_3.out).2.2
              have q029 : (0 : Int) ≤ ((ji23) : Int):=of_decide_eq_true (by first|(with_reducible assumption)|assumption)
              have hcut29:=cut_from (P:=Try.prog) 36 39 .i64 Try.underlying36 hi029 3 hsz29 (some ad130) x3_1.length co7 (ji23) q029 q29
              have hr29:=Kd.C_drop (m:=((ji23) : Int).toNat) (c:=co7) hC29 (by omega) hroom29
              obtain ⟨A29,hA29⟩ : ∃ A1,A1 = (if co7 = ((ji23) : Int).toNat then (some ad130) else ((some ad130) : Option Addr).map (·.add (((ji23) : Int).toNat * 3))):=⟨_,rfl⟩
              obtain ⟨c29,hc29⟩ : ∃ c1,c1 = co7 - ((ji23) : Int).toNat:=⟨_,rfl⟩
              have hy29 : y138.length = x3_1.length - ((ji23) : Int).toNat:=(by rw [Ny138.out,List.length_drop] <;> omega)
              rw [show (x3_1).drop ((ji23) : Int).toNat = y138 from Ny138.out.symm] at hr29
              replace hr29 : Kd.C k39 _ A29 y138.length y138:=(by rw [hA29];exact hr29)
              rw [← hy29,← hA29,← hc29] at hcut29
              have HR141:=Aside0.mk hr29
              have HC141:=Aside0.mk (show y138.length ≤ c29 from by rw [hy29,hc29];exact Nat.sub_le_sub_right hroom29 _)
              clear hr29 hC29 hroom29 hi029 hsz29 hc29
              have KY29:=Aside0.mk hy29
              have KA29:=Aside0.mk hA29
              clear hy29 hA29
              have KL29:=Aside0.mk (show ((ji23) : Int).toNat ≤ x3_1.length from by omega)
              replace q29:=eq_true q29
              have n_:=Aside0.mk (Kd.R_mono (ok':=(fun k_=>some k_ ≠ (v132 : Value).ownBlock)) HO_3.out (fun k_ hk=>hk.2))
              clear HO_3
              have HO_3:=n_
              clear n_
              obtain ⟨go31,co31,eo31,gb31,gl31,cl31,HG31⟩:=Kd.R_form HO_3.out (by have hj_ : 0 ≤ (x5_2 : Int):=of_decide_eq_true (by first|(with_reducible assumption)|assumption);have hl_ : (ji23 : Int) ≤ (x3_1.length : Int):=of_decide_eq_true (by first|(with_reducible assumption)|assumption);have hh_ : (x5_2 : Int) ≤ (x3_1.length : Int):=of_decide_eq_true (by first|(with_reducible assumption)|assumption);rw [← hji23] at hl_;unfold wrap64 at hl_;omega)
              (first|cases eo31|(injection eo31 with ea_ en_ ec_;(first|subst ea_|(injection ea_ with ea_;subst ea_));subst ec_;clear en_))
              have GB31:=Aside0.mk gb31
              have GG31:=Aside0.mk HG31
              clear gb31 gl31 HG31
              (first|simp only [add_plain] at hx130_0|skip)
              (first|simp only [add_plain] at hx130_1|skip)
              (first|simp only [add_plain] at hx130_2|skip)
              refine start_ (n:=9) (S:=fun w'=>True) (ds:=[]) #[false,false,false,false,false,false,false,false,false] (by kernel_rfl) rfl rfl trivial (fun hHeld=>?_);refine with_tabW bosunref24_Order.tab11 bosunref24_Order.bits11 (fun HT_ HW_=>?_)
              generalize w26.drew = w27 at HO_3 HO133 HB GG31 HR137 HR141 hx130_0 hx130_1 hx130_2 hHeld ⊢
              refine pure_ (i:=0) (N:=some 36) (v:=?_) (a':=?_) #[true,false,false,false,false,false,false,false,false] rfl rfl (any_of HT_.out (by kernel_rfl)) (fun _ _ _ h=>h) (Or.inl ⟨by rfl,?_⟩) ?_ ?_
              rotate_left
              ·intro w'
               go_simp
               with_reducible rfl
              rotate_left
              ·simp only [Act.put,List.setIfInBounds_toArray,List.set_cons_zero,List.set_cons_succ,i64_w,i32_w]
               rfl
              refine pure_ (i:=1) (N:=some 37) (v:=?_) (a':=?_) #[true,true,false,false,false,false,false,false,false] rfl rfl (any_of HT_.out (by kernel_rfl)) (fun _ _ _ h=>h) (Or.inl ⟨by rfl,?_⟩) ?_ ?_
              rotate_left
              ·intro w'
               go_simp
               with_reducible rfl
              rotate_left
              ·simp only [Act.put,List.setIfInBounds_toArray,List.set_cons_zero,List.set_cons_succ,i64_w,i32_w]
               rfl
              refine pure_ (i:=2) (N:=some 38) (v:=?_) (a':=?_) #[true,true,true,false,false,false,false,false,false] rfl rfl (any_of HT_.out (by kernel_rfl)) (fun _ _ _ h=>h) (Or.inl ⟨by rfl,?_⟩) ?_ ?_
              rotate_left
              ·intro w'
               go_simp
               with_reducible rfl
              rotate_left
              ·simp only [Act.put,List.setIfInBounds_toArray,List.set_cons_zero,List.set_cons_succ,i64_w,i32_w]
               rfl
              refine pure_ (i:=3) (N:=some 39) (v:=?_) (a':=?_) #[true,true,true,true,false,false,false,false,false] rfl rfl (any_of HT_.out (by kernel_rfl)) (fun _ _ _ h=>h) (Or.inl ⟨by rfl,?_⟩) ?_ ?_
              rotate_left
              ·intro w'
               go_simp
               with_reducible rfl
              rotate_left
              ·simp only [Act.put,List.setIfInBounds_toArray,List.set_cons_zero,List.set_cons_succ,i64_w,i32_w]
               rfl
              refine pure_ (i:=4) (N:=some 40) (v:=?_) (a':=?_) #[true,true,true,true,true,false,false,false,false] rfl rfl (any_of HT_.out (by kernel_rfl)) (fun _ _ _ h=>h) (Or.inl ⟨by rfl,?_⟩) ?_ ?_
              rotate_left
              ·intro w'
               go_simp
               with_reducible rfl
              rotate_left
              ·simp only [Act.put,List.setIfInBounds_toArray,List.set_cons_zero,List.set_cons_succ,i64_w,i32_w]
               rfl
              refine pure_ (i:=5) (N:=some 41) (v:=?_) (a':=?_) #[true,true,true,true,true,true,false,false,false] rfl rfl (any_of HT_.out (by kernel_rfl)) (fun _ _ _ h=>h) (Or.inl ⟨by rfl,?_⟩) ?_ ?_
              rotate_left
              ·intro w'
               go_simp
               with_reducible rfl
              rotate_left
              ·simp only [Act.put,List.setIfInBounds_toArray,List.set_cons_zero,List.set_cons_succ,i64_w,i32_w]
               rfl
              refine pure_ (i:=6) (N:=some 42) (v:=?_) (a':=?_) #[true,true,true,true,true,true,true,false,false] rfl rfl (any_of HT_.out (by kernel_rfl)) (fun _ _ _ h=>h) (Or.inl ⟨by rfl,?_⟩) ?_ ?_
              rotate_left
              ·intro w'
               go_simp
               with_reducible rfl
              rotate_left
              ·simp only [Act.put,List.setIfInBounds_toArray,List.set_cons_zero,List.set_cons_succ,i64_w,i32_w]
               rfl
              refine one_ (i:=7) (N:=some 43) #[true,true,true,true,true,true,true,true,false] rfl rfl (one_of HT_.out (by kernel_rfl)) (by decide) (fun K hK=>?_)
              have hj_ : 0 ≤ (x5_2 : Int):=of_decide_eq_true (by first|(with_reducible assumption)|assumption)
              have hl_ : (ji23 : Int) ≤ (x3_1.length : Int):=of_decide_eq_true (by first|(with_reducible assumption)|assumption)
              have hh_ : (x5_2 : Int) ≤ (x3_1.length : Int):=of_decide_eq_true (by first|(with_reducible assumption)|assumption)
              have hb_:=(Kd.R_reads' HO_3.out).2.2.2.1
              have h0_ : (0 : Int) ≤ (ji23 : Int):=of_decide_eq_true (by first|(with_reducible assumption)|assumption)
              have hy1_:=KY28.out
              have hk_ : (ji23 : Int).toNat = y134.length + 1:=(by have hw_ : (ji23 : Int) = x5_2 + 1:=(by have h00_:=h0_;rw [← hji23] at h00_ ⊢;unfold wrap64 at h00_ ⊢;omega);rw [hw_];omega)
              refine Kd.R_delete_step k39 (w0:=w) w.heap.size (by rfl) (.tmp 38) (.tmp 42) 36 39 rfl Try.underlying36 (by kernel_rfl) (g:=go31) (n:=x3_1.length) (c:=co7) (k:=y134.length) rfl rfl ?hA ?hm (by (with_reducible repeat (first|apply Kd.R_alloc|apply Kd.R_drewN|apply Kd.R_drew));exact HO_3.out) ?hk (by repeat (first|(with_reducible first|exact HB.out|apply below_alloc|apply pw_below_drewN|apply below_drew1)|exact HB.out)) (below_size (by repeat (first|(with_reducible first|exact HB.out|apply below_alloc|apply pw_below_drewN|apply below_drew1)|exact HB.out))) ?_
              (case hA=>have ha_:=KA29.out;rw [hk_] at ha_;exact ha_)
              (case hm=>have ha_:=KY29.out;omega)
              (case hk=>omega)
              intro w30 ho hb hg
              clear hj_ hl_ hh_ hb_ hk_ h0_
              rw [hy1_,← Ny142.out] at ho
              clear hy1_
              have hn_ : x3_1.length - 1 = y142.length:=(by have:=(Kd.R_reads' ho).1;omega)
              rw [hn_] at ho ⊢
              clear hn_
              have n0_:=Aside0.mk (ho)
              have n1_:=Aside0.mk (Kd.R_after (v:=(.slice (some ⟨go31,0,none⟩) x3_1.length co7)) (v1:=.slice (some ⟨go31,0,none⟩) y142.length co7) (ok:=(fun _=>True)) (by (with_reducible repeat (first|apply Kd.R_alloc|apply Kd.R_drewN|apply Kd.R_drew));exact Kd.R_mono HO133.out (fun _ hk=>⟨trivial,hk⟩)) hg (.inl rfl))
              have n2_:=Aside0.mk (hb)
              clear HO_3
              clear HO133
              clear HB
              have HO_3:=n0_
              have HO133:=n1_
              have HB:=n2_
              clear n0_ n1_ n2_
              clear ho hb hg
              refine hK.out _ _ trivial (fun hHeld=>?_)
              clear hK K
              refine norm_ (a':=?_) ?_ ?_
              rotate_left
              ·show Act.put _ (some 43) _ = _
               simp only [Act.put,List.setIfInBounds_toArray,List.set_cons_zero,List.set_cons_succ,i64_w,i32_w]
               rfl
              refine pure_ (i:=8) (N:=some 3) (v:=?_) (a':=?_) #[true,true,true,true,true,true,true,true,true] rfl rfl (any_of HT_.out (by kernel_rfl)) (fun _ _ _ h=>h) (Or.inl ⟨by rfl,?_⟩) ?_ ?_
              rotate_left
              ·intro w'
               go_simp
               with_reducible rfl
              rotate_left
              ·simp only [Act.put,List.setIfInBounds_toArray,List.set_cons_zero,List.set_cons_succ,i64_w,i32_w]
               rfl
              refine done_ (done_of HT_.out (by kernel_rfl)) ?_
              try go_wp2
              go_roundg k2
              case measure=>have:=HK1.out;have:=HK2.out;omega
              case rel=>exact ⟨(y142),(y131),H',⟨by have:=HK1.out;have:=HK2.out;omega⟩,⟨by (with_reducible repeat (first|apply Kd.R_alloc|apply Kd.R_drewN|apply Kd.R_drew));exact HO_3.out⟩,⟨by (with_reducible repeat (first|apply Kd.R_alloc|apply Kd.R_drewN|apply Kd.R_drew));exact Kd.R_mono HO133.out (fun _ hk=>hk.2)⟩,⟨by repeat (first|(with_reducible first|exact HB.out|apply below_alloc|apply pw_below_drewN|apply below_drew1)|exact HB.out)⟩⟩
             ·rw [if_neg c25] at H
              exact absurd H (by simp)
            ·rw [if_neg c24] at H
             exact absurd H (by simp)
           ·rw [if_neg c22] at H
            exact absurd H (by simp)
          ·rw [if_neg c20] at H
           exact absurd H (by simp)
         ·rw [if_neg c19] at H
          exact absurd H (by simp)
        ·rw [if_neg c18] at H
         exact absurd H (by simp)
    ·rw [if_neg c6] at H
     have c6b0 : decide (0 < (x3_1.length : Int)) = false:=decide_eq_false c6
     have c6b1 : decide (0 < x3_1.length) = false:=decide_eq_false (by omega)
     clear c6
     obtain rfl:=Option.some.inj H
     obtain ⟨Ao32,co32,eo32⟩:=Kd.R_slice HO_3.out
     subst eo32
     go_wp2
     go_ret
     exact ⟨_,by first|rfl|(simp [errW_none,errW_some] <;> rfl)|(simp [*,errW_none,errW_some] <;> rfl),by (with_reducible repeat (first|apply Kd.R_alloc|apply Kd.R_drewN|apply Kd.R_drew));exact Kd.R_mono HO_4.out (fun _ hk=>trivial),by repeat (first|(with_reducible first|exact HB.out|apply below_alloc|apply pw_below_drewN|apply below_drew1)|exact HB.out)⟩
 ·rw [if_neg c2] at H
  exact absurd H (by simp)

end Go.Proofs.Ythnbkhggbfnpcaa.GEv
