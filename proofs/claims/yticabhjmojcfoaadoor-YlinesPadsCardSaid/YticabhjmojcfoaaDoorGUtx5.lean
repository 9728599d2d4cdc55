/- Written by this session's own program (wip/gen.py) out of the translation: plain Lean functions of the Go functions, and proofs that the calls come to their answers. No conditions beside those in the statements. -/
import Derived.Test.YticabhjmojcfoaaDoorGUtx0
import Derived.Test.YticabhjmojcfoaaDoorGUtx4
import Derived.Test.YticabhjmojcfoaaDoorGUtTrim
namespace Go.Proofs.YticabhjmojcfoaaDoor.GUt
open Go.RowKit Go.Proofs.YticabhjmojcfoaaDoorW.PrintWords Go.Proofs.YticabhjmojcfoaaDoorW.PrintLast Go.Proofs.YticabhjmojcfoaaDoorW.PrintMore
attribute [local go_sem] max2_int min2_int max_two min_two max_three min_three max_four min_four   -- for this text's walks alone
set_option linter.unusedVariables false
set_option linter.unusedSimpArgs false

/-! ### ylines_rows: function 12 -/
def ylines_rows.l0 : Nat → Int → ByteArray → List (S32) → Int → Option ((List (S32)))
 | 0,_,_,_,_=>none
 | k + 1,x0,x1,x5,x6=>(strings_TrimLeft.f x1 (⟨#[32]⟩ : ByteArray)).bind fun t104=>(if t104.toList = ([] : List UInt8) then (some x5) else (if t104.toList = ([45] : List UInt8) then (if x5.length < 3518437208883 then (if 1 ≤ (t104.size : Int) then (ylines_rows.l0 k x0 (t104.extract 1 t104.size) (x5 ++ [(⟨x0,wrap64 (x6 + (wrap64 ((x1.size : Int) - (t104.size : Int)))),true,(⟨#[]⟩ : ByteArray)⟩ : S32)]) (wrap64 ((wrap64 (x6 + (wrap64 ((x1.size : Int) - (t104.size : Int))))) + 1))) else (none)) else (none)) else ((strings_HasPrefix.f t104 (⟨#[45,32]⟩ : ByteArray)).bind fun t108=>(if t108 = true then (if x5.length < 3518437208883 then (if 1 ≤ (t104.size : Int) then (ylines_rows.l0 k x0 (t104.extract 1 t104.size) (x5 ++ [(⟨x0,wrap64 (x6 + (wrap64 ((x1.size : Int) - (t104.size : Int)))),true,(⟨#[]⟩ : ByteArray)⟩ : S32)]) (wrap64 ((wrap64 (x6 + (wrap64 ((x1.size : Int) - (t104.size : Int))))) + 1))) else (none)) else (none)) else (if x5.length < 3518437208883 then (some (x5 ++ [(⟨x0,wrap64 (x6 + (wrap64 ((x1.size : Int) - (t104.size : Int)))),false,t104⟩ : S32)])) else (none))))))
def ylines_rows.f (k : Nat) (a0 : Int) (a1 : ByteArray) : Option ((List (S32))):=ylines_rows.l0 k a0 a1 ([] : List (S32)) 0
theorem ylines_rows.mono_l : ∀ k,(∀ y0 y1 y2 y3,LeO (ylines_rows.l0 k y0 y1 y2 y3) (ylines_rows.l0 (k + 1) y0 y1 y2 y3))
 | 0=>fun _ _ _ _ r h=>by simp [ylines_rows.l0] at h
 | k + 1=>by
  have ih0:=ylines_rows.mono_l k
  ·intro y0 y1 y2 y3
   unfold ylines_rows.l0
   repeat' first
   | (with_reducible exact ih0 _ _ _ _)
   | (with_reducible exact LeO.refl _)
   | (with_reducible exact LeO.none _)
   | (with_reducible refine LeO.ite ?_ ?_)
   | (with_reducible refine LeO.bind ?_ (fun _=>?_))
   | exact ih0 _ _ _ _
   | exact LeO.none _
   | refine LeO.ite ?_ ?_
   | refine LeO.bind ?_ (fun _=>?_)
theorem ylines_rows.mono : ∀ a0 a1 k,LeO (ylines_rows.f k a0 a1) (ylines_rows.f (k + 1) a0 a1):=by
 intro a0 a1 k
 have ih0:=ylines_rows.mono_l k
 unfold ylines_rows.f
 repeat' first
   | (with_reducible exact ih0 _ _ _ _)
   | (with_reducible exact LeO.refl _)
   | (with_reducible exact LeO.none _)
   | (with_reducible refine LeO.ite ?_ ?_)
   | (with_reducible refine LeO.bind ?_ (fun _=>?_))
   | exact ih0 _ _ _ _
   | exact LeO.none _
   | refine LeO.ite ?_ ?_
   | refine LeO.bind ?_ (fun _=>?_)
set_option maxHeartbeats 8000000 in
set_option maxRecDepth 100000 in
theorem ylines_rows.calls (k : Nat) (a0 : Int) (a1 : ByteArray) (r : List (S32)) (w : World) (h : ylines_rows.f k a0 a1 = some r) :
  Calls Tryd.prog 12 #[.int .i64 a0,.string a1] w fun e w'=>∃ v0_ : Value,e = .returned (v0_) ∧ Kd.R k32 32 w' w.heap.size (fun _=>True) v0_ r ∧ Below w.heap.size w w':=by
 have hu32:=Tryd.underlying32
 have HB:=Aside0.mk (Below.refl w.heap.size w)
 have H : (ylines_rows.l0 k a0 a1 ([] : List (S32)) 0) = some r:=h
 clear h
 have H':=Aside0.mk H
 clear H
 go_enter Tryd.func12,Tryd.ntmps12
 go_wp2
 repeat (go_quiet (fail);try go_wp2)
 go_loopg [1,5,6] k (fun kq v1 v5 v6 w'=>∃ (x1_1 : ByteArray) (x5_1 : List (S32)) (x6_1 : Int),v1 = .string x1_1 ∧ v6 = .int .i64 x6_1 ∧ Aside0 (ylines_rows.l0 kq a0 x1_1 x5_1 x6_1 = some r) ∧ Aside0 (kq ≤ k) ∧ Aside0 (Kd.R k32 32 w' w.heap.size (fun _=>True) v5 x5_1) ∧ Aside0 (Below w.heap.size w w'))
 case atStart=>exact ⟨(a1),(([] : List (S32))),(0),(by first|rfl|(simp;done)|(simp [*];done)|exact congrArg Value.bool (nil_ne_ _)|exact congrArg Value.bool (nil_ne_ _).symm),(by first|rfl|(simp;done)|(simp [*];done)|exact congrArg Value.bool (nil_ne_ _)|exact congrArg Value.bool (nil_ne_ _).symm),H',⟨Nat.le_refl _⟩,⟨by first|exact Kd.R_nil _ _ _ _ _|exact Kd.N_nil _ _ _ _ _|exact Kd.V_nil _ _ _ _ _|exact Kd.Q_nil _ _ _ _ _|exact Kd.S_nil _ _ _ _ _⟩,⟨by repeat (first|(with_reducible first|exact HB.out|apply below_alloc|apply pw_below_drewN|apply below_drew1)|exact HB.out)⟩⟩
 case round =>
  clear H'
  try clear c1
  try clear p2
  obtain ⟨x1_1,x5_1,x6_1,rfl,rfl,HA,HK1,HO_5,HB⟩:=hrel
  cases gk with
  | zero=>exact absurd HA.out (by simp [ylines_rows.l0])
  | succ k1 =>
   have H:=HA.out
   clear HA
   simp only [ylines_rows.l0] at H
   replace H:=Option.bind_eq_some_iff.mp H
   obtain ⟨t104,A30,H⟩:=H
   replace H : (if t104.toList = ([] : List UInt8) then (some x5_1) else (if t104.toList = ([45] : List UInt8) then (if x5_1.length < 3518437208883 then (if 1 ≤ (t104.size : Int) then (ylines_rows.l0 k1 a0 (t104.extract 1 t104.size) (x5_1 ++ [(⟨a0,wrap64 (x6_1 + (wrap64 ((x1_1.size : Int) - (t104.size : Int)))),true,(⟨#[]⟩ : ByteArray)⟩ : S32)]) (wrap64 ((wrap64 (x6_1 + (wrap64 ((x1_1.size : Int) - (t104.size : Int))))) + 1))) else (none)) else (none)) else ((strings_HasPrefix.f t104 (⟨#[45,32]⟩ : ByteArray)).bind fun t108=>(if t108 = true then (if x5_1.length < 3518437208883 then (if 1 ≤ (t104.size : Int) then (ylines_rows.l0 k1 a0 (t104.extract 1 t104.size) (x5_1 ++ [(⟨a0,wrap64 (x6_1 + (wrap64 ((x1_1.size : Int) - (t104.size : Int)))),true,(⟨#[]⟩ : ByteArray)⟩ : S32)]) (wrap64 ((wrap64 (x6_1 + (wrap64 ((x1_1.size : Int) - (t104.size : Int))))) + 1))) else (none)) else (none)) else (if x5_1.length < 3518437208883 then (some (x5_1 ++ [(⟨a0,wrap64 (x6_1 + (wrap64 ((x1_1.size : Int) - (t104.size : Int)))),false,t104⟩ : S32)])) else (none)))))) = some r:=H
   have A3:=Aside0.mk A30
   clear A30
   by_cases c4 : t104.toList = ([] : List UInt8)
   ·rw [if_pos c4] at H
    have c4b0 : (t104.toList == ([] : List UInt8)) = true:=beq_iff_eq.mpr c4
    have c4b1 : (t104.toList != ([] : List UInt8)) = false:=bne_eq_false_iff_eq.mpr c4
    clear c4
    obtain rfl:=Option.some.inj H
    go_wp2_with (first|(go_at_call 20;(with_reducible refine (strings_TrimLeft.calls x1_1 (⟨#[32]⟩ : ByteArray) t104 _ A3.out).mono ?_);rintro e w' ⟨rfl,⟨nd,rfl⟩⟩;(try first|exact ⟨rfl,_,World.drewN_drewN _ _ _⟩|exact ⟨rfl,_,Eq.trans (World.drewN_drewN _ _ _) (congrArg (World.drewN _) (Nat.add_assoc _ _ _))⟩)))
    repeat (go_quiet (first|(go_at_call 20;(with_reducible refine (strings_TrimLeft.calls x1_1 (⟨#[32]⟩ : ByteArray) t104 _ A3.out).mono ?_);rintro e w' ⟨rfl,⟨nd,rfl⟩⟩;(try first|exact ⟨rfl,_,World.drewN_drewN _ _ _⟩|exact ⟨rfl,_,Eq.trans (World.drewN_drewN _ _ _) (congrArg (World.drewN _) (Nat.add_assoc _ _ _))⟩)));try go_wp2_with (first|(go_at_call 20;(with_reducible refine (strings_TrimLeft.calls x1_1 (⟨#[32]⟩ : ByteArray) t104 _ A3.out).mono ?_);rintro e w' ⟨rfl,⟨nd,rfl⟩⟩;(try first|exact ⟨rfl,_,World.drewN_drewN _ _ _⟩|exact ⟨rfl,_,Eq.trans (World.drewN_drewN _ _ _) (congrArg (World.drewN _) (Nat.add_assoc _ _ _))⟩))))
    go_ret
    exact ⟨_,by first|rfl|(simp [errW_none,errW_some] <;> rfl)|(simp [*,errW_none,errW_some] <;> rfl),by (with_reducible repeat (first|apply Kd.R_alloc|apply Kd.R_drewN|apply Kd.R_drew));exact HO_5.out,by repeat (first|(with_reducible first|exact HB.out|apply below_alloc|apply pw_below_drewN|apply below_drew1)|exact HB.out)⟩
   ·rw [if_neg c4] at H
    have c4b0 : (t104.toList == ([] : List UInt8)) = false:=beq_eq_false_iff_ne.mpr c4
    have c4b1 : (t104.toList != ([] : List UInt8)) = true:=bne_iff_ne.mpr c4
    by_cases c5 : t104.toList = ([45] : List UInt8)
    ·rw [if_pos c5] at H
     have c5b0 : (t104.toList == ([45] : List UInt8)) = true:=beq_iff_eq.mpr c5
     have c5b1 : (t104.toList != ([45] : List UInt8)) = false:=bne_eq_false_iff_eq.mpr c5
     clear c5
     by_cases c6 : x5_1.length < 3518437208883
     ·rw [if_pos c6] at H
      have LMc6:=Aside0.mk c6
      clear c6
      obtain ⟨y105,hy105⟩ : ∃ y_ : List (S32),y_ = (x5_1 ++ [(⟨a0,wrap64 (x6_1 + (wrap64 ((x1_1.size : Int) - (t104.size : Int)))),true,(⟨#[]⟩ : ByteArray)⟩ : S32)]):=⟨_,rfl⟩
      replace H : (if 1 ≤ (t104.size : Int) then (ylines_rows.l0 k1 a0 (t104.extract 1 t104.size) y105 (wrap64 ((wrap64 (x6_1 + (wrap64 ((x1_1.size : Int) - (t104.size : Int))))) + 1))) else (none)) = some r:=by first|(rw [hy105];with_reducible exact H)|(have H2_:=(Option.bind_some _ _).symm.trans H;rw [hy105];with_reducible exact H2_)|(have H2_:=(Option.bind_some _ _).symm.trans H;with_reducible exact H2_)|with_reducible exact H|(rw [hy105];exact H)|exact H
      have Ny105:=Aside0.mk hy105
      clear hy105
      by_cases c7 : 1 ≤ (t104.size : Int)
      ·rw [if_pos c7] at H
       have c7b0:=eq_true c7
       have c7b1 : decide (1 ≤ (t104.size : Int)) = true:=decide_eq_true c7
       clear c7
       have H':=Aside0.mk H
       clear H
       go_wp2_with (first|(go_at_call 20;(with_reducible refine (strings_TrimLeft.calls x1_1 (⟨#[32]⟩ : ByteArray) t104 _ A3.out).mono ?_);rintro e w' ⟨rfl,⟨nd,rfl⟩⟩;(try first|exact ⟨rfl,_,World.drewN_drewN _ _ _⟩|exact ⟨rfl,_,Eq.trans (World.drewN_drewN _ _ _) (congrArg (World.drewN _) (Nat.add_assoc _ _ _))⟩))|((with_reducible refine gate_builtin (b:=.append) (xs:=#[.tmp 35,.tmp 39]) rfl ?_);at_builtin;refine Kd.R_append k32 (w0:=w) w.heap.size rfl (.tmp 35) (.tmp 39) 23 32 (.agg #[(.int .i64 0),(.int .i64 0),(.bool false),(.string ⟨#[]⟩)]) 40 rfl Tryd.underlying23 info32 rfl (by decide) (by omega) u5 x5_1 (⟨a0,wrap64 (x6_1 + (wrap64 ((x1_1.size : Int) - (t104.size : Int)))),true,(⟨#[]⟩ : ByteArray)⟩ : S32) [.int .i64 a0,.int .i64 (wrap64 (x6_1 + (wrap64 ((x1_1.size : Int) - (t104.size : Int))))),.bool true,.string (⟨#[]⟩ : ByteArray)] (fun _=>True) (fun _=>False) rfl rfl ?aP (fun _ hk=>hk.elim) ?aF ?aO ?aB ?aS ?aL ?_;(case aP=>exact k32_mkM _ _ _ (⟨a0,wrap64 (x6_1 + (wrap64 ((x1_1.size : Int) - (t104.size : Int)))),true,(⟨#[]⟩ : ByteArray)⟩ : S32));(case aB=>exact (by repeat (first|(with_reducible first|exact HB.out|apply below_alloc|apply pw_below_drewN|apply below_drew1)|exact HB.out)));(case aF=>exact (fun _ _=>trivial));(case aO=>exact (by (with_reducible repeat (first|apply Kd.R_alloc|apply Kd.R_drewN|apply Kd.R_drew));exact HO_5.out));(case aS=>exact (below_size (by repeat (first|(with_reducible first|exact HB.out|apply below_alloc|apply pw_below_drewN|apply below_drew1)|exact HB.out))));(case aL=>have:=LMc6.out;omega);intro v106 w8 ho hb hg hat;rw [← Ny105.out] at ho;have n0_:=Aside0.mk (hb);have n1_:=Aside0.mk (ho);clear HB;clear HO_5;have HB:=n0_;have HO107:=n1_;clear n0_ n1_;clear ho hb hg hat))
       repeat (go_quiet (first|(go_at_call 20;(with_reducible refine (strings_TrimLeft.calls x1_1 (⟨#[32]⟩ : ByteArray) t104 _ A3.out).mono ?_);rintro e w' ⟨rfl,⟨nd,rfl⟩⟩;(try first|exact ⟨rfl,_,World.drewN_drewN _ _ _⟩|exact ⟨rfl,_,Eq.trans (World.drewN_drewN _ _ _) (congrArg (World.drewN _) (Nat.add_assoc _ _ _))⟩))|((with_reducible refine gate_builtin (b:=.append) (xs:=#[.tmp 35,.tmp 39]) rfl ?_);at_builtin;refine Kd.R_append k32 (w0:=w) w.heap.size rfl (.tmp 35) (.tmp 39) 23 32 (.agg #[(.int .i64 0),(.int .i64 0),(.bool false),(.string ⟨#[]⟩)]) 40 rfl Tryd.underlying23 info32 rfl (by decide) (by omega) u5 x5_1 (⟨a0,wrap64 (x6_1 + (wrap64 ((x1_1.size : Int) - (t104.size : Int)))),true,(⟨#[]⟩ : ByteArray)⟩ : S32) [.int .i64 a0,.int .i64 (wrap64 (x6_1 + (wrap64 ((x1_1.size : Int) - (t104.size : Int))))),.bool true,.string (⟨#[]⟩ : ByteArray)] (fun _=>True) (fun _=>False) rfl rfl ?aP (fun _ hk=>hk.elim) ?aF ?aO ?aB ?aS ?aL ?_;(case aP=>exact k32_mkM _ _ _ (⟨a0,wrap64 (x6_1 + (wrap64 ((x1_1.size : Int) - (t104.size : Int)))),true,(⟨#[]⟩ : ByteArray)⟩ : S32));(case aB=>exact (by repeat (first|(with_reducible first|exact HB.out|apply below_alloc|apply pw_below_drewN|apply below_drew1)|exact HB.out)));(case aF=>exact (fun _ _=>trivial));(case aO=>exact (by (with_reducible repeat (first|apply Kd.R_alloc|apply Kd.R_drewN|apply Kd.R_drew));exact HO_5.out));(case aS=>exact (below_size (by repeat (first|(with_reducible first|exact HB.out|apply below_alloc|apply pw_below_drewN|apply below_drew1)|exact HB.out))));(case aL=>have:=LMc6.out;omega);intro v106 w8 ho hb hg hat;rw [← Ny105.out] at ho;have n0_:=Aside0.mk (hb);have n1_:=Aside0.mk (ho);clear HB;clear HO_5;have HB:=n0_;have HO107:=n1_;clear n0_ n1_;clear ho hb hg hat));try go_wp2_with (first|(go_at_call 20;(with_reducible refine (strings_TrimLeft.calls x1_1 (⟨#[32]⟩ : ByteArray) t104 _ A3.out).mono ?_);rintro e w' ⟨rfl,⟨nd,rfl⟩⟩;(try first|exact ⟨rfl,_,World.drewN_drewN _ _ _⟩|exact ⟨rfl,_,Eq.trans (World.drewN_drewN _ _ _) (congrArg (World.drewN _) (Nat.add_assoc _ _ _))⟩))|((with_reducible refine gate_builtin (b:=.append) (xs:=#[.tmp 35,.tmp 39]) rfl ?_);at_builtin;refine Kd.R_append k32 (w0:=w) w.heap.size rfl (.tmp 35) (.tmp 39) 23 32 (.agg #[(.int .i64 0),(.int .i64 0),(.bool false),(.string ⟨#[]⟩)]) 40 rfl Tryd.underlying23 info32 rfl (by decide) (by omega) u5 x5_1 (⟨a0,wrap64 (x6_1 + (wrap64 ((x1_1.size : Int) - (t104.size : Int)))),true,(⟨#[]⟩ : ByteArray)⟩ : S32) [.int .i64 a0,.int .i64 (wrap64 (x6_1 + (wrap64 ((x1_1.size : Int) - (t104.size : Int))))),.bool true,.string (⟨#[]⟩ : ByteArray)] (fun _=>True) (fun _=>False) rfl rfl ?aP (fun _ hk=>hk.elim) ?aF ?aO ?aB ?aS ?aL ?_;(case aP=>exact k32_mkM _ _ _ (⟨a0,wrap64 (x6_1 + (wrap64 ((x1_1.size : Int) - (t104.size : Int)))),true,(⟨#[]⟩ : ByteArray)⟩ : S32));(case aB=>exact (by repeat (first|(with_reducible first|exact HB.out|apply below_alloc|apply pw_below_drewN|apply below_drew1)|exact HB.out)));(case aF=>exact (fun _ _=>trivial));(case aO=>exact (by (with_reducible repeat (first|apply Kd.R_alloc|apply Kd.R_drewN|apply Kd.R_drew));exact HO_5.out));(case aS=>exact (below_size (by repeat (first|(with_reducible first|exact HB.out|apply below_alloc|apply pw_below_drewN|apply below_drew1)|exact HB.out))));(case aL=>have:=LMc6.out;omega);intro v106 w8 ho hb hg hat;rw [← Ny105.out] at ho;have n0_:=Aside0.mk (hb);have n1_:=Aside0.mk (ho);clear HB;clear HO_5;have HB:=n0_;have HO107:=n1_;clear n0_ n1_;clear ho hb hg hat)))
       go_roundg k1
       case measure=>have:=HK1.out;omega
       case rel=>exact ⟨(t104.extract 1 t104.size),(y105),(wrap64 ((wrap64 (x6_1 + (wrap64 ((x1_1.size : Int) - (t104.size : Int))))) + 1)),(by first|rfl|(simp;done)|(simp [*];done)|exact congrArg Value.bool (nil_ne_ _)|exact congrArg Value.bool (nil_ne_ _).symm),(by first|rfl|(simp;done)|(simp [*];done)|exact congrArg Value.bool (nil_ne_ _)|exact congrArg Value.bool (nil_ne_ _).symm),H',⟨by have:=HK1.out;omega⟩,⟨by (with_reducible repeat (first|apply Kd.R_alloc|apply Kd.R_drewN|apply Kd.R_drew));exact HO107.out⟩,⟨by repeat (first|(with_reducible first|exact HB.out|apply below_alloc|apply pw_below_drewN|apply below_drew1)|exact HB.out)⟩⟩
      ·rw [if_neg c7] at H
       exact absurd H (by simp)
     ·rw [if_neg c6] at H
      exact absurd H (by simp)
    ·rw [if_neg c5] at H
     have c5b0 : (t104.toList == ([45] : List UInt8)) = false:=beq_eq_false_iff_ne.mpr c5
     have c5b1 : (t104.toList != ([45] : List UInt8)) = true:=bne_iff_ne.mpr c5
     replace H:=Option.bind_eq_some_iff.mp H
     obtain ⟨t108,A90,H⟩:=H
     replace H : (if t108 = true then (if x5_1.length < 3518437208883 then (if 1 ≤ (t104.size : Int) then (ylines_rows.l0 k1 a0 (t104.extract 1 t104.size) (x5_1 ++ [(⟨a0,wrap64 (x6_1 + (wrap64 ((x1_1.size : Int) - (t104.size : Int)))),true,(⟨#[]⟩ : ByteArray)⟩ : S32)]) (wrap64 ((wrap64 (x6_1 + (wrap64 ((x1_1.size : Int) - (t104.size : Int))))) + 1))) else (none)) else (none)) else (if x5_1.length < 3518437208883 then (some (x5_1 ++ [(⟨a0,wrap64 (x6_1 + (wrap64 ((x1_1.size : Int) - (t104.size : Int)))),false,t104⟩ : S32)])) else (none))) = some r:=H
     have A9:=Aside0.mk A90
     clear A90
     by_cases c10 : t108 = true
     ·subst c10
      have H1 : (if x5_1.length < 3518437208883 then (if 1 ≤ (t104.size : Int) then (ylines_rows.l0 k1 a0 (t104.extract 1 t104.size) (x5_1 ++ [(⟨a0,wrap64 (x6_1 + (wrap64 ((x1_1.size : Int) - (t104.size : Int)))),true,(⟨#[]⟩ : ByteArray)⟩ : S32)]) (wrap64 ((wrap64 (x6_1 + (wrap64 ((x1_1.size : Int) - (t104.size : Int))))) + 1))) else (none)) else (none)) = some r:=by rw [if_pos rfl] at H;exact H
      clear H
      have H:=H1
      clear H1
      by_cases c11 : x5_1.length < 3518437208883
      ·rw [if_pos c11] at H
       have LMc11:=Aside0.mk c11
       clear c11
       obtain ⟨y109,hy109⟩ : ∃ y_ : List (S32),y_ = (x5_1 ++ [(⟨a0,wrap64 (x6_1 + (wrap64 ((x1_1.size : Int) - (t104.size : Int)))),true,(⟨#[]⟩ : ByteArray)⟩ : S32)]):=⟨_,rfl⟩
       replace H : (if 1 ≤ (t104.size : Int) then (ylines_rows.l0 k1 a0 (t104.extract 1 t104.size) y109 (wrap64 ((wrap64 (x6_1 + (wrap64 ((x1_1.size : Int) - (t104.size : Int))))) + 1))) else (none)) = some r:=by first|(rw [hy109];with_reducible exact H)|(have H2_:=(Option.bind_some _ _).symm.trans H;rw [hy109];with_reducible exact H2_)|(have H2_:=(Option.bind_some _ _).symm.trans H;with_reducible exact H2_)|with_reducible exact H|(rw [hy109];exact H)|exact H
       have Ny109:=Aside0.mk hy109
       clear hy109
       by_cases c12 : 1 ≤ (t104.size : Int)
       ·rw [if_pos c12] at H
        have c12b0:=eq_true c12
        have c12b1 : decide (1 ≤ (t104.size : Int)) = true:=decide_eq_true c12
        clear c12
        have H':=Aside0.mk H
        clear H
        go_wp2_with (first|(go_at_call 20;(with_reducible refine (strings_TrimLeft.calls x1_1 (⟨#[32]⟩ : ByteArray) t104 _ A3.out).mono ?_);rintro e w' ⟨rfl,⟨nd,rfl⟩⟩;(try first|exact ⟨rfl,_,World.drewN_drewN _ _ _⟩|exact ⟨rfl,_,Eq.trans (World.drewN_drewN _ _ _) (congrArg (World.drewN _) (Nat.add_assoc _ _ _))⟩))|(go_at_call 21;(with_reducible refine (strings_HasPrefix.calls t104 (⟨#[45,32]⟩ : ByteArray) true _ A9.out).mono ?_);rintro e w' ⟨rfl,⟨nd,rfl⟩⟩;(try first|exact ⟨rfl,_,World.drewN_drewN _ _ _⟩|exact ⟨rfl,_,Eq.trans (World.drewN_drewN _ _ _) (congrArg (World.drewN _) (Nat.add_assoc _ _ _))⟩))|((with_reducible refine gate_builtin (b:=.append) (xs:=#[.tmp 35,.tmp 39]) rfl ?_);at_builtin;refine Kd.R_append k32 (w0:=w) w.heap.size rfl (.tmp 35) (.tmp 39) 23 32 (.agg #[(.int .i64 0),(.int .i64 0),(.bool false),(.string ⟨#[]⟩)]) 40 rfl Tryd.underlying23 info32 rfl (by decide) (by omega) u5 x5_1 (⟨a0,wrap64 (x6_1 + (wrap64 ((x1_1.size : Int) - (t104.size : Int)))),true,(⟨#[]⟩ : ByteArray)⟩ : S32) [.int .i64 a0,.int .i64 (wrap64 (x6_1 + (wrap64 ((x1_1.size : Int) - (t104.size : Int))))),.bool true,.string (⟨#[]⟩ : ByteArray)] (fun _=>True) (fun _=>False) rfl rfl ?aP (fun _ hk=>hk.elim) ?aF ?aO ?aB ?aS ?aL ?_;(case aP=>exact k32_mkM _ _ _ (⟨a0,wrap64 (x6_1 + (wrap64 ((x1_1.size : Int) - (t104.size : Int)))),true,(⟨#[]⟩ : ByteArray)⟩ : S32));(case aB=>exact (by repeat (first|(with_reducible first|exact HB.out|apply below_alloc|apply pw_below_drewN|apply below_drew1)|exact HB.out)));(case aF=>exact (fun _ _=>trivial));(case aO=>exact (by (with_reducible repeat (first|apply Kd.R_alloc|apply Kd.R_drewN|apply Kd.R_drew));exact HO_5.out));(case aS=>exact (below_size (by repeat (first|(with_reducible first|exact HB.out|apply below_alloc|apply pw_below_drewN|apply below_drew1)|exact HB.out))));(case aL=>have:=LMc11.out;omega);intro v110 w13 ho hb hg hat;rw [← Ny109.out] at ho;have n0_:=Aside0.mk (hb);have n1_:=Aside0.mk (ho);clear HB;clear HO_5;have HB:=n0_;have HO111:=n1_;clear n0_ n1_;clear ho hb hg hat))
        repeat (go_quiet (first|(go_at_call 20;(with_reducible refine (strings_TrimLeft.calls x1_1 (⟨#[32]⟩ : ByteArray) t104 _ A3.out).mono ?_);rintro e w' ⟨rfl,⟨nd,rfl⟩⟩;(try first|exact ⟨rfl,_,World.drewN_drewN _ _ _⟩|exact ⟨rfl,_,Eq.trans (World.drewN_drewN _ _ _) (congrArg (World.drewN _) (Nat.add_assoc _ _ _))⟩))|(go_at_call 21;(with_reducible refine (strings_HasPrefix.calls t104 (⟨#[45,32]⟩ : ByteArray) true _ A9.out).mono ?_);rintro e w' ⟨rfl,⟨nd,rfl⟩⟩;(try first|exact ⟨rfl,_,World.drewN_drewN _ _ _⟩|exact ⟨rfl,_,Eq.trans (World.drewN_drewN _ _ _) (congrArg (World.drewN _) (Nat.add_assoc _ _ _))⟩))|((with_reducible refine gate_builtin (b:=.append) (xs:=#[.tmp 35,.tmp 39]) rfl ?_);at_builtin;refine Kd.R_append k32 (w0:=w) w.heap.size rfl (.tmp 35) (.tmp 39) 23 32 (.agg #[(.int .i64 0),(.int .i64 0),(.bool false),(.string ⟨#[]⟩)]) 40 rfl Tryd.underlying23 info32 rfl (by decide) (by omega) u5 x5_1 (⟨a0,wrap64 (x6_1 + (wrap64 ((x1_1.size : Int) - (t104.size : Int)))),true,(⟨#[]⟩ : ByteArray)⟩ : S32) [.int .i64 a0,.int .i64 (wrap64 (x6_1 + (wrap64 ((x1_1.size : Int) - (t104.size : Int))))),.bool true,.string (⟨#[]⟩ : ByteArray)] (fun _=>True) (fun _=>False) rfl rfl ?aP (fun _ hk=>hk.elim) ?aF ?aO ?aB ?aS ?aL ?_;(case aP=>exact k32_mkM _ _ _ (⟨a0,wrap64 (x6_1 + (wrap64 ((x1_1.size : Int) - (t104.size : Int)))),true,(⟨#[]⟩ : ByteArray)⟩ : S32));(case aB=>exact (by repeat (first|(with_reducible first|exact HB.out|apply below_alloc|apply pw_below_drewN|apply below_drew1)|exact HB.out)));(case aF=>exact (fun _ _=>trivial));(case aO=>exact (by (with_reducible repeat (first|apply Kd.R_alloc|apply Kd.R_drewN|apply Kd.R_drew));exact HO_5.out));(case aS=>exact (below_size (by repeat (first|(with_reducible first|exact HB.out|apply below_alloc|apply pw_below_drewN|apply below_drew1)|exact HB.out))));(case aL=>have:=LMc11.out;omega);intro v110 w13 ho hb hg hat;rw [← Ny109.out] at ho;have n0_:=Aside0.mk (hb);have n1_:=Aside0.mk (ho);clear HB;clear HO_5;have HB:=n0_;have HO111:=n1_;clear n0_ n1_;clear ho hb hg hat));try go_wp2_with (first|(go_at_call 20;(with_reducible refine (strings_TrimLeft.calls x1_1 (⟨#[32]⟩ : ByteArray) t104 _ A3.out).mono ?_);rintro e w' ⟨rfl,⟨nd,rfl⟩⟩;(try first|exact ⟨rfl,_,World.drewN_drewN _ _ _⟩|exact ⟨rfl,_,Eq.trans (World.drewN_drewN _ _ _) (congrArg (World.drewN _) (Nat.add_assoc _ _ _))⟩))|(go_at_call 21;(with_reducible refine (strings_HasPrefix.calls t104 (⟨#[45,32]⟩ : ByteArray) true _ A9.out).mono ?_);rintro e w' ⟨rfl,⟨nd,rfl⟩⟩;(try first|exact ⟨rfl,_,World.drewN_drewN _ _ _⟩|exact ⟨rfl,_,Eq.trans (World.drewN_drewN _ _ _) (congrArg (World.drewN _) (Nat.add_assoc _ _ _))⟩))|((with_reducible refine gate_builtin (b:=.append) (xs:=#[.tmp 35,.tmp 39]) rfl ?_);at_builtin;refine Kd.R_append k32 (w0:=w) w.heap.size rfl (.tmp 35) (.tmp 39) 23 32 (.agg #[(.int .i64 0),(.int .i64 0),(.bool false),(.string ⟨#[]⟩)]) 40 rfl Tryd.underlying23 info32 rfl (by decide) (by omega) u5 x5_1 (⟨a0,wrap64 (x6_1 + (wrap64 ((x1_1.size : Int) - (t104.size : Int)))),true,(⟨#[]⟩ : ByteArray)⟩ : S32) [.int .i64 a0,.int .i64 (wrap64 (x6_1 + (wrap64 ((x1_1.size : Int) - (t104.size : Int))))),.bool true,.string (⟨#[]⟩ : ByteArray)] (fun _=>True) (fun _=>False) rfl rfl ?aP (fun _ hk=>hk.elim) ?aF ?aO ?aB ?aS ?aL ?_;(case aP=>exact k32_mkM _ _ _ (⟨a0,wrap64 (x6_1 + (wrap64 ((x1_1.size : Int) - (t104.size : Int)))),true,(⟨#[]⟩ : ByteArray)⟩ : S32));(case aB=>exact (by repeat (first|(with_reducible first|exact HB.out|apply below_alloc|apply pw_below_drewN|apply below_drew1)|exact HB.out)));(case aF=>exact (fun _ _=>trivial));(case aO=>exact (by (with_reducible repeat (first|apply Kd.R_alloc|apply Kd.R_drewN|apply Kd.R_drew));exact HO_5.out));(case aS=>exact (below_size (by repeat (first|(with_reducible first|exact HB.out|apply below_alloc|apply pw_below_drewN|apply below_drew1)|exact HB.out))));(case aL=>have:=LMc11.out;omega);intro v110 w13 ho hb hg hat;rw [← Ny109.out] at ho;have n0_:=Aside0.mk (hb);have n1_:=Aside0.mk (ho);clear HB;clear HO_5;have HB:=n0_;have HO111:=n1_;clear n0_ n1_;clear ho hb hg hat)))
        go_roundg k1
        case measure=>have:=HK1.out;omega
        case rel=>exact ⟨(t104.extract 1 t104.size),(y109),(wrap64 ((wrap64 (x6_1 + (wrap64 ((x1_1.size : Int) - (t104.size : Int))))) + 1)),(by first|rfl|(simp;done)|(simp [*];done)|exact congrArg Value.bool (nil_ne_ _)|exact congrArg Value.bool (nil_ne_ _).symm),(by first|rfl|(simp;done)|(simp [*];done)|exact congrArg Value.bool (nil_ne_ _)|exact congrArg Value.bool (nil_ne_ _).symm),H',⟨by have:=HK1.out;omega⟩,⟨by (with_reducible repeat (first|apply Kd.R_alloc|apply Kd.R_drewN|apply Kd.R_drew));exact HO111.out⟩,⟨by repeat (first|(with_reducible first|exact HB.out|apply below_alloc|apply pw_below_drewN|apply below_drew1)|exact HB.out)⟩⟩
       ·rw [if_neg c12] at H
        exact absurd H (by simp)
      ·rw [if_neg c11] at H
       exact absurd H (by simp)
     ·replace c10:=Bool.eq_false_iff.mpr c10
      subst c10
      have H1 : (if x5_1.length < 3518437208883 then (some (x5_1 ++ [(⟨a0,wrap64 (x6_1 + (wrap64 ((x1_1.size : Int) - (t104.size : Int)))),false,t104⟩ : S32)])) else (none)) = some r:=by rw [if_neg (show ¬ (false = true) by decide)] at H;exact H
      clear H
      have H:=H1
      clear H1
      by_cases c14 : x5_1.length < 3518437208883
      ·rw [if_pos c14] at H
       have LMc14:=Aside0.mk c14
       clear c14
       obtain ⟨y112,hy112⟩ : ∃ y_ : List (S32),y_ = (x5_1 ++ [(⟨a0,wrap64 (x6_1 + (wrap64 ((x1_1.size : Int) - (t104.size : Int)))),false,t104⟩ : S32)]):=⟨_,rfl⟩
       replace H : (some y112) = some r:=by first|(rw [hy112];with_reducible exact H)|(have H2_:=(Option.bind_some _ _).symm.trans H;rw [hy112];with_reducible exact H2_)|(have H2_:=(Option.bind_some _ _).symm.trans H;with_reducible exact H2_)|with_reducible exact H|(rw [hy112];exact H)|exact H
       have Ny112:=Aside0.mk hy112
       clear hy112
       obtain rfl:=Option.some.inj H
       go_wp2_with (first|(go_at_call 20;(with_reducible refine (strings_TrimLeft.calls x1_1 (⟨#[32]⟩ : ByteArray) t104 _ A3.out).mono ?_);rintro e w' ⟨rfl,⟨nd,rfl⟩⟩;(try first|exact ⟨rfl,_,World.drewN_drewN _ _ _⟩|exact ⟨rfl,_,Eq.trans (World.drewN_drewN _ _ _) (congrArg (World.drewN _) (Nat.add_assoc _ _ _))⟩))|(go_at_call 21;(with_reducible refine (strings_HasPrefix.calls t104 (⟨#[45,32]⟩ : ByteArray) false _ A9.out).mono ?_);rintro e w' ⟨rfl,⟨nd,rfl⟩⟩;(try first|exact ⟨rfl,_,World.drewN_drewN _ _ _⟩|exact ⟨rfl,_,Eq.trans (World.drewN_drewN _ _ _) (congrArg (World.drewN _) (Nat.add_assoc _ _ _))⟩))|((with_reducible refine gate_builtin (b:=.append) (xs:=#[.tmp 28,.tmp 33]) rfl ?_);at_builtin;refine Kd.R_append k32 (w0:=w) w.heap.size rfl (.tmp 28) (.tmp 33) 23 32 (.agg #[(.int .i64 0),(.int .i64 0),(.bool false),(.string ⟨#[]⟩)]) 40 rfl Tryd.underlying23 info32 rfl (by decide) (by omega) u5 x5_1 (⟨a0,wrap64 (x6_1 + (wrap64 ((x1_1.size : Int) - (t104.size : Int)))),false,t104⟩ : S32) [.int .i64 a0,.int .i64 (wrap64 (x6_1 + (wrap64 ((x1_1.size : Int) - (t104.size : Int))))),.bool false,.string t104] (fun _=>True) (fun _=>False) rfl rfl ?aP (fun _ hk=>hk.elim) ?aF ?aO ?aB ?aS ?aL ?_;(case aP=>exact k32_mkM _ _ _ (⟨a0,wrap64 (x6_1 + (wrap64 ((x1_1.size : Int) - (t104.size : Int)))),false,t104⟩ : S32));(case aB=>exact (by repeat (first|(with_reducible first|exact HB.out|apply below_alloc|apply pw_below_drewN|apply below_drew1)|exact HB.out)));(case aF=>exact (fun _ _=>trivial));(case aO=>exact (by (with_reducible repeat (first|apply Kd.R_alloc|apply Kd.R_drewN|apply Kd.R_drew));exact HO_5.out));(case aS=>exact (below_size (by repeat (first|(with_reducible first|exact HB.out|apply below_alloc|apply pw_below_drewN|apply below_drew1)|exact HB.out))));(case aL=>have:=LMc14.out;omega);intro v113 w15 ho hb hg hat;rw [← Ny112.out] at ho;have n0_:=Aside0.mk (hb);have n1_:=Aside0.mk (ho);clear HB;clear HO_5;have HB:=n0_;have HO114:=n1_;clear n0_ n1_;clear ho hb hg hat))
       repeat (go_quiet (first|(go_at_call 20;(with_reducible refine (strings_TrimLeft.calls x1_1 (⟨#[32]⟩ : ByteArray) t104 _ A3.out).mono ?_);rintro e w' ⟨rfl,⟨nd,rfl⟩⟩;(try first|exact ⟨rfl,_,World.drewN_drewN _ _ _⟩|exact ⟨rfl,_,Eq.trans (World.drewN_drewN _ _ _) (congrArg (World.drewN _) (Nat.add_assoc _ _ _))⟩))|(go_at_call 21;(with_reducible refine (strings_HasPrefix.calls t104 (⟨#[45,32]⟩ : ByteArray) false _ A9.out).mono ?_);rintro e w' ⟨rfl,⟨nd,rfl⟩⟩;(try first|exact ⟨rfl,_,World.drewN_drewN _ _ _⟩|exact ⟨rfl,_,Eq.trans (World.drewN_drewN _ _ _) (congrArg (World.drewN _) (Nat.add_assoc _ _ _))⟩))|((with_reducible refine gate_builtin (b:=.append) (xs:=#[.tmp 28,.tmp 33]) rfl ?_);at_builtin;refine Kd.R_append k32 (w0:=w) w.heap.size rfl (.tmp 28) (.tmp 33) 23 32 (.agg #[(.int .i64 0),(.int .i64 0),(.bool false),(.string ⟨#[]⟩)]) 40 rfl Tryd.underlying23 info32 rfl (by decide) (by omega) u5 x5_1 (⟨a0,wrap64 (x6_1 + (wrap64 ((x1_1.size : Int) - (t104.size : Int)))),false,t104⟩ : S32) [.int .i64 a0,.int .i64 (wrap64 (x6_1 + (wrap64 ((x1_1.size : Int) - (t104.size : Int))))),.bool false,.string t104] (fun _=>True) (fun _=>False) rfl rfl ?aP (fun _ hk=>hk.elim) ?aF ?aO ?aB ?aS ?aL ?_;(case aP=>exact k32_mkM _ _ _ (⟨a0,wrap64 (x6_1 + (wrap64 ((x1_1.size : Int) - (t104.size : Int)))),false,t104⟩ : S32));(case aB=>exact (by repeat (first|(with_reducible first|exact HB.out|apply below_alloc|apply pw_below_drewN|apply below_drew1)|exact HB.out)));(case aF=>exact (fun _ _=>trivial));(case aO=>exact (by (with_reducible repeat (first|apply Kd.R_alloc|apply Kd.R_drewN|apply Kd.R_drew));exact HO_5.out));(case aS=>exact (below_size (by repeat (first|(with_reducible first|exact HB.out|apply below_alloc|apply pw_below_drewN|apply below_drew1)|exact HB.out))));(case aL=>have:=LMc14.out;omega);intro v113 w15 ho hb hg hat;rw [← Ny112.out] at ho;have n0_:=Aside0.mk (hb);have n1_:=Aside0.mk (ho);clear HB;clear HO_5;have HB:=n0_;have HO114:=n1_;clear n0_ n1_;clear ho hb hg hat));try go_wp2_with (first|(go_at_call 20;(with_reducible refine (strings_TrimLeft.calls x1_1 (⟨#[32]⟩ : ByteArray) t104 _ A3.out).mono ?_);rintro e w' ⟨rfl,⟨nd,rfl⟩⟩;(try first|exact ⟨rfl,_,World.drewN_drewN _ _ _⟩|exact ⟨rfl,_,Eq.trans (World.drewN_drewN _ _ _) (congrArg (World.drewN _) (Nat.add_assoc _ _ _))⟩))|(go_at_call 21;(with_reducible refine (strings_HasPrefix.calls t104 (⟨#[45,32]⟩ : ByteArray) false _ A9.out).mono ?_);rintro e w' ⟨rfl,⟨nd,rfl⟩⟩;(try first|exact ⟨rfl,_,World.drewN_drewN _ _ _⟩|exact ⟨rfl,_,Eq.trans (World.drewN_drewN _ _ _) (congrArg (World.drewN _) (Nat.add_assoc _ _ _))⟩))|((with_reducible refine gate_builtin (b:=.append) (xs:=#[.tmp 28,.tmp 33]) rfl ?_);at_builtin;refine Kd.R_append k32 (w0:=w) w.heap.size rfl (.tmp 28) (.tmp 33) 23 32 (.agg #[(.int .i64 0),(.int .i64 0),(.bool false),(.string ⟨#[]⟩)]) 40 rfl Tryd.underlying23 info32 rfl (by decide) (by omega) u5 x5_1 (⟨a0,wrap64 (x6_1 + (wrap64 ((x1_1.size : Int) - (t104.size : Int)))),false,t104⟩ : S32) [.int .i64 a0,.int .i64 (wrap64 (x6_1 + (wrap64 ((x1_1.size : Int) - (t104.size : Int))))),.bool false,.string t104] (fun _=>True) (fun _=>False) rfl rfl ?aP (fun _ hk=>hk.elim) ?aF ?aO ?aB ?aS ?aL ?_;(case aP=>exact k32_mkM _ _ _ (⟨a0,wrap64 (x6_1 + (wrap64 ((x1_1.size : Int) - (t104.size : Int)))),false,t104⟩ : S32));(case aB=>exact (by repeat (first|(with_reducible first|exact HB.out|apply below_alloc|apply pw_below_drewN|apply below_drew1)|exact HB.out)));(case aF=>exact (fun _ _=>trivial));(case aO=>exact (by (with_reducible repeat (first|apply Kd.R_alloc|apply Kd.R_drewN|apply Kd.R_drew));exact HO_5.out));(case aS=>exact (below_size (by repeat (first|(with_reducible first|exact HB.out|apply below_alloc|apply pw_below_drewN|apply below_drew1)|exact HB.out))));(case aL=>have:=LMc14.out;omega);intro v113 w15 ho hb hg hat;rw [← Ny112.out] at ho;have n0_:=Aside0.mk (hb);have n1_:=Aside0.mk (ho);clear HB;clear HO_5;have HB:=n0_;have HO114:=n1_;clear n0_ n1_;clear ho hb hg hat)))
       go_ret
       exact ⟨_,by first|rfl|(simp [errW_none,errW_some] <;> rfl)|(simp [*,errW_none,errW_some] <;> rfl),by (with_reducible repeat (first|apply Kd.R_alloc|apply Kd.R_drewN|apply Kd.R_drew));exact HO114.out,by repeat (first|(with_reducible first|exact HB.out|apply below_alloc|apply pw_below_drewN|apply below_drew1)|exact HB.out)⟩
      ·rw [if_neg c14] at H
       exact absurd H (by simp)

end Go.Proofs.YticabhjmojcfoaaDoor.GUt
