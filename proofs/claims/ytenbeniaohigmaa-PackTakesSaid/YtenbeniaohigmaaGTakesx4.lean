/- Written by this session's own program (wip/gen.py) out of the translation: plain Lean functions of the Go functions, and proofs that the calls come to their answers. No conditions beside those in the statements. -/
import Derived.Test.YtenbeniaohigmaaGTakesx0
import Derived.Test.YtenbeniaohigmaaGTakesx1
import Derived.Test.YtenbeniaohigmaaGTakesx2
import Derived.Test.YtenbeniaohigmaaGTakesx3
namespace Go.Proofs.Ytenbeniaohigmaa.GTakes
open Go.RowKit Go.Proofs.YtenbeniaohigmaaW.PrintWords Go.Proofs.YtenbeniaohigmaaW.PrintLast Go.Proofs.YtenbeniaohigmaaW.PrintMore
attribute [local go_sem] max2_int min2_int max_two min_two max_three min_three max_four min_four   -- for this text's walks alone
set_option linter.unusedVariables false
set_option linter.unusedSimpArgs false

/-! ### bosunlaw02_PackTakes: function 4 -/
mutual
def bosunlaw02_PackTakes.j0 : Nat → ByteArray → List (S39) → Bool → Option (Bool)
  | 0, _, _, _ => none
  | k + 1, x0, x1, x24 => if x24 = true then ((bosunlaw02_Awake.f k).bind fun t152 => (some t152)) else (bosunlaw02_PackTakes.l0 k x1 (x1.length : Int) 0 x0 0 x0 0)
def bosunlaw02_PackTakes.l0 : Nat → List (S39) → Int → Int → ByteArray → Int → ByteArray → Int → Option (Bool)
  | 0, _, _, _, _, _, _, _ => none
  | k + 1, x31, x32, x33, x154000, x154001, x155000, x155001 => if x33 < x32 then (if 0 ≤ x33 then (if x33 < (x31.length : Int) then (if ((rd_T39 x31 x33).f0) = 0 then ((bosunref02_Take.f k x155000 x155001 ((rd_T39 x31 x33).f1)).bind fun bt158 => ((pack_Taker_Take.f k x154000 x154001 ((rd_T39 x31 x33).f1)).bind fun bt162 => (if bt162.1 = bt158.2.2 then (bosunlaw02_PackTakes.j2 k x31 x32 x33 bt162.2.1 bt162.2.2 bt158.1 bt158.2.1) else (some false)))) else (if ((rd_T39 x31 x33).f0) = 1 then ((bosunref02_Take.f k x155000 x155001 8).bind fun bt165 => ((pack_Taker_Int.f k x154000 x154001).bind fun bt169 => (if bt169.1 = (wrap64 (bt165.2.2)) then (bosunlaw02_PackTakes.j2 k x31 x32 x33 bt169.2.1 bt169.2.2 bt165.1 bt165.2.1) else (some false)))) else (if ((rd_T39 x31 x33).f0) = 2 then ((bosunref02_TakeFlag.f k x155000 x155001).bind fun bt172 => ((pack_Taker_Flag.f k x154000 x154001).bind fun bt176 => (if (bt176.1 != bt172.2.2) = true then (some false) else (bosunlaw02_PackTakes.j2 k x31 x32 x33 bt176.2.1 bt176.2.2 bt172.1 bt172.2.1)))) else (if ((rd_T39 x31 x33).f0) = 3 then ((bosunref02_TakeText.f k x155000 x155001).bind fun bt179 => ((pack_Taker_Text.f k x154000 x154001).bind fun bt183 => (if bt183.1.toList = bt179.2.2.toList then (bosunlaw02_PackTakes.j2 k x31 x32 x33 bt183.2.1 bt183.2.2 bt179.1 bt179.2.1) else (some false)))) else (bosunlaw02_PackTakes.j2 k x31 x32 x33 x154000 x154001 x155000 x155001))))) else (none)) else (none)) else ((bosunlaw02_Awake.f k).bind fun t155 => (some t155))
def bosunlaw02_PackTakes.j2 : Nat → List (S39) → Int → Int → ByteArray → Int → ByteArray → Int → Option (Bool)
  | 0, _, _, _, _, _, _, _ => none
  | k + 1, x31, x32, x33, x154000, x154001, x155000, x155001 => if x154000.toList = x155000.toList then (if x154001 = x155001 then ((pack_Taker_End.f x154000 x154001).bind fun bt186 => ((bosunref02_End.f x155000 x155001).bind fun t189 => (if bt186.1 = t189 then (bosunlaw02_PackTakes.l0 k x31 x32 (wrap64 (x33 + 1)) bt186.2.1 bt186.2.2 x155000 x155001) else (some false)))) else (some false)) else (some false)
end
def bosunlaw02_PackTakes.f (k : Nat) (a0 : ByteArray) (l1 : List (S39)) : Option (Bool) := if (a0.size : Int) > 6000 then (bosunlaw02_PackTakes.j0 k a0 l1 true) else (bosunlaw02_PackTakes.j0 k a0 l1 (decide ((l1.length : Int) > 60)))
theorem bosunlaw02_PackTakes.mono_l : ∀ k, (∀ y0 y1 y2, LeO (bosunlaw02_PackTakes.j0 k y0 y1 y2) (bosunlaw02_PackTakes.j0 (k + 1) y0 y1 y2)) ∧ (∀ y0 y1 y2 y3 y4 y5 y6, LeO (bosunlaw02_PackTakes.l0 k y0 y1 y2 y3 y4 y5 y6) (bosunlaw02_PackTakes.l0 (k + 1) y0 y1 y2 y3 y4 y5 y6)) ∧ (∀ y0 y1 y2 y3 y4 y5 y6, LeO (bosunlaw02_PackTakes.j2 k y0 y1 y2 y3 y4 y5 y6) (bosunlaw02_PackTakes.j2 (k + 1) y0 y1 y2 y3 y4 y5 y6))
  | 0 => ⟨fun _ _ _ r h => by simp [bosunlaw02_PackTakes.j0] at h, fun _ _ _ _ _ _ _ r h => by simp [bosunlaw02_PackTakes.l0] at h, fun _ _ _ _ _ _ _ r h => by simp [bosunlaw02_PackTakes.j2] at h⟩
  | k + 1 => by
    obtain ⟨ih0, ih1, ih2⟩ := bosunlaw02_PackTakes.mono_l k
    refine ⟨?_, ?_, ?_⟩
    · intro y0 y1 y2
      unfold bosunlaw02_PackTakes.j0
      repeat' first
      | (with_reducible exact ih0 _ _ _)
      | (with_reducible exact ih1 _ _ _ _ _ _ _)
      | (with_reducible exact ih2 _ _ _ _ _ _ _)
      | (with_reducible exact bosunlaw02_Awake.mono _)
      | (with_reducible exact bosunref02_Take.mono _ _ _ _)
      | (with_reducible exact bosunref02_TakeFlag.mono _ _ _)
      | (with_reducible exact bosunref02_TakeText.mono _ _ _)
      | (with_reducible exact pack_Taker_Flag.mono _ _ _)
      | (with_reducible exact pack_Taker_Int.mono _ _ _)
      | (with_reducible exact pack_Taker_Take.mono _ _ _ _)
      | (with_reducible exact pack_Taker_Text.mono _ _ _)
      | (with_reducible exact LeO.refl _)
      | (with_reducible exact LeO.none _)
      | (with_reducible refine LeO.ite ?_ ?_)
      | (with_reducible refine LeO.bind ?_ (fun _ => ?_))
      | exact ih0 _ _ _
      | exact ih1 _ _ _ _ _ _ _
      | exact ih2 _ _ _ _ _ _ _
      | exact bosunlaw02_Awake.mono _
      | exact bosunref02_Take.mono _ _ _ _
      | exact bosunref02_TakeFlag.mono _ _ _
      | exact bosunref02_TakeText.mono _ _ _
      | exact pack_Taker_Flag.mono _ _ _
      | exact pack_Taker_Int.mono _ _ _
      | exact pack_Taker_Take.mono _ _ _ _
      | exact pack_Taker_Text.mono _ _ _
      | exact LeO.none _
      | refine LeO.ite ?_ ?_
      | refine LeO.bind ?_ (fun _ => ?_)
    · intro y0 y1 y2 y3 y4 y5 y6
      unfold bosunlaw02_PackTakes.l0
      repeat' first
      | (with_reducible exact ih0 _ _ _)
      | (with_reducible exact ih1 _ _ _ _ _ _ _)
      | (with_reducible exact ih2 _ _ _ _ _ _ _)
      | (with_reducible exact bosunlaw02_Awake.mono _)
      | (with_reducible exact bosunref02_Take.mono _ _ _ _)
      | (with_reducible exact bosunref02_TakeFlag.mono _ _ _)
      | (with_reducible exact bosunref02_TakeText.mono _ _ _)
      | (with_reducible exact pack_Taker_Flag.mono _ _ _)
      | (with_reducible exact pack_Taker_Int.mono _ _ _)
      | (with_reducible exact pack_Taker_Take.mono _ _ _ _)
      | (with_reducible exact pack_Taker_Text.mono _ _ _)
      | (with_reducible exact LeO.refl _)
      | (with_reducible exact LeO.none _)
      | (with_reducible refine LeO.ite ?_ ?_)
      | (with_reducible refine LeO.bind ?_ (fun _ => ?_))
      | exact ih0 _ _ _
      | exact ih1 _ _ _ _ _ _ _
      | exact ih2 _ _ _ _ _ _ _
      | exact bosunlaw02_Awake.mono _
      | exact bosunref02_Take.mono _ _ _ _
      | exact bosunref02_TakeFlag.mono _ _ _
      | exact bosunref02_TakeText.mono _ _ _
      | exact pack_Taker_Flag.mono _ _ _
      | exact pack_Taker_Int.mono _ _ _
      | exact pack_Taker_Take.mono _ _ _ _
      | exact pack_Taker_Text.mono _ _ _
      | exact LeO.none _
      | refine LeO.ite ?_ ?_
      | refine LeO.bind ?_ (fun _ => ?_)
    · intro y0 y1 y2 y3 y4 y5 y6
      unfold bosunlaw02_PackTakes.j2
      repeat' first
      | (with_reducible exact ih0 _ _ _)
      | (with_reducible exact ih1 _ _ _ _ _ _ _)
      | (with_reducible exact ih2 _ _ _ _ _ _ _)
      | (with_reducible exact bosunlaw02_Awake.mono _)
      | (with_reducible exact bosunref02_Take.mono _ _ _ _)
      | (with_reducible exact bosunref02_TakeFlag.mono _ _ _)
      | (with_reducible exact bosunref02_TakeText.mono _ _ _)
      | (with_reducible exact pack_Taker_Flag.mono _ _ _)
      | (with_reducible exact pack_Taker_Int.mono _ _ _)
      | (with_reducible exact pack_Taker_Take.mono _ _ _ _)
      | (with_reducible exact pack_Taker_Text.mono _ _ _)
      | (with_reducible exact LeO.refl _)
      | (with_reducible exact LeO.none _)
      | (with_reducible refine LeO.ite ?_ ?_)
      | (with_reducible refine LeO.bind ?_ (fun _ => ?_))
      | exact ih0 _ _ _
      | exact ih1 _ _ _ _ _ _ _
      | exact ih2 _ _ _ _ _ _ _
      | exact bosunlaw02_Awake.mono _
      | exact bosunref02_Take.mono _ _ _ _
      | exact bosunref02_TakeFlag.mono _ _ _
      | exact bosunref02_TakeText.mono _ _ _
      | exact pack_Taker_Flag.mono _ _ _
      | exact pack_Taker_Int.mono _ _ _
      | exact pack_Taker_Take.mono _ _ _ _
      | exact pack_Taker_Text.mono _ _ _
      | exact LeO.none _
      | refine LeO.ite ?_ ?_
      | refine LeO.bind ?_ (fun _ => ?_)
theorem bosunlaw02_PackTakes.mono : ∀ a0 a1 k, LeO (bosunlaw02_PackTakes.f k a0 a1) (bosunlaw02_PackTakes.f (k + 1) a0 a1) := by
  intro a0 a1 k
  obtain ⟨ih0, ih1, ih2⟩ := bosunlaw02_PackTakes.mono_l k
  unfold bosunlaw02_PackTakes.f
  repeat' first
      | (with_reducible exact ih0 _ _ _)
      | (with_reducible exact ih1 _ _ _ _ _ _ _)
      | (with_reducible exact ih2 _ _ _ _ _ _ _)
      | (with_reducible exact bosunlaw02_Awake.mono _)
      | (with_reducible exact bosunref02_Take.mono _ _ _ _)
      | (with_reducible exact bosunref02_TakeFlag.mono _ _ _)
      | (with_reducible exact bosunref02_TakeText.mono _ _ _)
      | (with_reducible exact pack_Taker_Flag.mono _ _ _)
      | (with_reducible exact pack_Taker_Int.mono _ _ _)
      | (with_reducible exact pack_Taker_Take.mono _ _ _ _)
      | (with_reducible exact pack_Taker_Text.mono _ _ _)
      | (with_reducible exact LeO.refl _)
      | (with_reducible exact LeO.none _)
      | (with_reducible refine LeO.ite ?_ ?_)
      | (with_reducible refine LeO.bind ?_ (fun _ => ?_))
      | exact ih0 _ _ _
      | exact ih1 _ _ _ _ _ _ _
      | exact ih2 _ _ _ _ _ _ _
      | exact bosunlaw02_Awake.mono _
      | exact bosunref02_Take.mono _ _ _ _
      | exact bosunref02_TakeFlag.mono _ _ _
      | exact bosunref02_TakeText.mono _ _ _
      | exact pack_Taker_Flag.mono _ _ _
      | exact pack_Taker_Int.mono _ _ _
      | exact pack_Taker_Take.mono _ _ _ _
      | exact pack_Taker_Text.mono _ _ _
      | exact LeO.none _
      | refine LeO.ite ?_ ?_
      | refine LeO.bind ?_ (fun _ => ?_)
def bosunlaw02_PackTakes.T29 : Bool × List (List Nat × List Nat) := (true, [([], []), ([0], [0]), ([1], [1]), ([2], [2]), ([], []), ([4], [4]), ([3, 5], [3, 5]), ([6], [6]), ([7], [7]), ([8, 7], [7, 8]), ([9, 7], [7, 9]), ([10, 7], [7, 10]), ([7], [7]), ([12, 7], [7, 12]), ([11, 13, 7], [7, 11, 13]), ([7, 14], [7, 14]), ([15, 7], [15]), ([16], [16]), ([17, 16, 16], [16, 17]), ([16], [16]), ([19, 18, 16], [16, 19]), ([18, 20, 16], [16, 18, 20]), ([16, 21], [16, 21])])
def bosunlaw02_PackTakes.B29 : List Nat := [0, 1, 3, 7, 0, 16, 63, 127, 255, 511, 1023, 2047, 255, 4351, 16383, 32767, 65535, 131071, 262143, 131071, 1048575, 2097151, 4194303]
theorem bosunlaw02_PackTakes.tab29 : rtab .any (opsOf Try.f4 29) = bosunlaw02_PackTakes.T29 := by kernel_rfl
theorem bosunlaw02_PackTakes.bits29 : waitsOk bosunlaw02_PackTakes.T29.2 bosunlaw02_PackTakes.B29 = true := by kernel_rfl
set_option maxHeartbeats 8000000 in
set_option maxRecDepth 100000 in
theorem bosunlaw02_PackTakes.calls (k : Nat) (a0 : ByteArray) (A1 : Option Addr) (c1 : Nat) (l1 : List (S39)) (r : Bool) (w : World) (hr1 : Kd.C k39 w A1 l1.length l1) (hc1 : l1.length ≤ c1) (h : bosunlaw02_PackTakes.f k a0 l1 = some r) :
    Calls Try.prog 4 #[.string a0, .slice A1 l1.length c1] w fun e w' => e = .returned (.bool r) ∧ Below w.heap.size w w' := by
  have hu35 := Try.underlying35
  have hu37 := Try.underlying37
  have hu39 := Try.underlying39
  have HR1 := Aside0.mk hr1
  have HC1 := Aside0.mk hc1
  clear hr1 hc1
  have HB := Aside0.mk (Below.refl w.heap.size w)
  have H : (if (a0.size : Int) > 6000 then (bosunlaw02_PackTakes.j0 k a0 l1 true) else (bosunlaw02_PackTakes.j0 k a0 l1 (decide ((l1.length : Int) > 60)))) = some r := h
  clear h
  have HC3 := Aside0.mk H
  clear H
  go_enter Try.func4, Try.ntmps4
  go_upto_region 1 with (fail)
  go_cut [24] (fun v24 wc => ∃ (kq : Nat) (x24_2 : Bool), v24 = .bool x24_2 ∧ Aside0 (bosunlaw02_PackTakes.j0 kq a0 l1 x24_2 = some r) ∧ Aside0 (kq ≤ k) ∧ Aside0 (Below w.heap.size w wc))
  case first =>
    have H := HC3.out
    clear HC3
    by_cases c4 : (a0.size : Int) > 6000
    · rw [if_pos c4] at H
      have c4b0 : decide (6000 < (a0.size : Int)) = true := decide_eq_true c4
      have c4b1 : decide (6000 < a0.size) = true := decide_eq_true (by omega)
      clear c4
      (first | rw [c4b0] | (simp only [i64_w, i32_w]; rw [c4b0]) | skip)
      have H' := Aside0.mk H
      clear H
      go_wp2
      go_meet
      case rel => exact ⟨_, (true), (by first | rfl | (simp; done) | (simp [*]; done)), H', ⟨by first | omega | exact Nat.le_refl _⟩, ⟨by repeat (first | (with_reducible first | exact HB.out | apply below_alloc | apply pw_below_drewN | apply below_drew1) | exact HB.out)⟩⟩
    · rw [if_neg c4] at H
      have c4b0 : decide (6000 < (a0.size : Int)) = false := decide_eq_false c4
      have c4b1 : decide (6000 < a0.size) = false := decide_eq_false (by omega)
      clear c4
      (first | rw [c4b0] | (simp only [i64_w, i32_w]; rw [c4b0]) | skip)
      have H' := Aside0.mk H
      clear H
      go_wp2
      go_meet
      case rel => exact ⟨_, (decide ((l1.length : Int) > 60)), (by first | rfl | (simp; done) | (simp [*]; done)), H', ⟨by first | omega | exact Nat.le_refl _⟩, ⟨by repeat (first | (with_reducible first | exact HB.out | apply below_alloc | apply pw_below_drewN | apply below_drew1) | exact HB.out)⟩⟩
  case rest =>
    clear HC3
    try clear c1
    try clear p2
    try clear c4
    try clear c4b0
    try clear c4b1
    obtain ⟨kq, x24_2, rfl, HA, HJ2, HB⟩ := hcut
    cases kq with
    | zero => exact absurd HA.out (by simp [bosunlaw02_PackTakes.j0])
    | succ kj2 =>
      have H := HA.out
      clear HA
      simp only [bosunlaw02_PackTakes.j0] at H
      by_cases c5 : x24_2 = true
      · subst c5
        have H1 : ((bosunlaw02_Awake.f kj2).bind fun t152 => (some t152)) = some r := by rw [if_pos rfl] at H; exact H
        clear H
        have H := H1
        clear H1
        replace H := Option.bind_eq_some_iff.mp H
        obtain ⟨t152, A60, H⟩ := H
        replace H : (some t152) = some r := H
        have A6 := Aside0.mk A60
        clear A60
        obtain rfl := Option.some.inj H
        go_wp2_with (first | ((with_reducible refine gate_callee (f := 8) rfl ?_); refine goesL_ (some 25) rfl rfl Try.func8 (by kernel_rfl) rfl #[] rfl (by (try simp only [List.map_toArray, List.map_cons, List.map_nil]); first | done | rfl | (simp only [List.length_drop, List.length_take]; rfl) | (simp (disch := first | omega | (simp at *; omega)) only [u64_id, i64_id, u8_id]; rfl)) ?_; (with_reducible refine (bosunlaw02_Awake.calls kj2  t152 _ A6.out).mono ?_); rintro e w7 ⟨rfl, hb⟩; refine ⟨_, rfl, ?_⟩; have n0_ := Aside0.mk (below_step (by repeat (first | (with_reducible first | exact HB.out | apply below_alloc | apply pw_below_drewN | apply below_drew1) | exact HB.out)) hb); clear HB; have HB := n0_; clear n0_; (try clear hb); (try clear hb2); (try clear hk); (try clear hi)))
        go_ret
        exact ⟨by first | rfl | (simp [errW_none, errW_some] <;> rfl) | (simp [*, errW_none, errW_some] <;> rfl), by repeat (first | (with_reducible first | exact HB.out | apply below_alloc | apply pw_below_drewN | apply below_drew1) | exact HB.out)⟩
      · replace c5 := Bool.eq_false_iff.mpr c5
        subst c5
        have H1 : (bosunlaw02_PackTakes.l0 kj2 l1 (l1.length : Int) 0 a0 0 a0 0) = some r := by rw [if_neg (show ¬ (false = true) by decide)] at H; exact H
        clear H
        have H := H1
        clear H1
        have H' := Aside0.mk H
        clear H
        go_wp2_with (first | ((with_reducible refine gate_dst (N := 28) rfl ?_); (try (refine gate_guard (by rfl) ?_; dsimp only)); refine box_event ?hg (N := 28) ?hd (cs := #[.string a0, .int .i64 0]) (t := 35) ?hr ?_; (case hd => rfl); (case hg => rfl); (case hr => first | (go_simp; done) | (go_simp; rfl)); intro gb153 hg w8 hbox hb; have n0_ := Aside0.mk (below_step (by repeat (first | (with_reducible first | exact HB.out | apply below_alloc | apply pw_below_drewN | apply below_drew1) | exact HB.out)) hb); have n1_ := Aside0.mk ((by rw [hg]; exact (below_size (by repeat (first | (with_reducible first | exact HB.out | apply below_alloc | apply pw_below_drewN | apply below_drew1) | exact HB.out))) : w.heap.size ≤ gb153)); have n2_ := Aside0.mk ((by rw [hg]; exact (below_size (by repeat (first | (with_reducible first | exact HB.out | apply below_alloc | apply pw_below_drewN | apply below_drew1) | exact HB.out))) : w.heap.size ≤ gb153)); have n3_ := Aside0.mk (show IsS35 w w8 gb153 a0 0 from ⟨hbox, (by rw [hg]; exact (below_size (by repeat (first | (with_reducible first | exact HB.out | apply below_alloc | apply pw_below_drewN | apply below_drew1) | exact HB.out))) : w.heap.size ≤ gb153)⟩); clear HB; have HB := n0_; have GW153 := n1_; have GE153 := n2_; have HI153 := n3_; clear n0_ n1_ n2_ n3_; clear hb hbox hg) | ((with_reducible refine gate_dst (N := 6) rfl ?_); (try (refine gate_guard (by rfl) ?_; dsimp only)); refine box_event ?hg (N := 6) ?hd (cs := #[.string (⟨#[]⟩ : ByteArray), .int .i64 0]) (t := 37) ?hr ?_; (case hd => rfl); (case hg => rfl); (case hr => first | (go_simp; done) | (go_simp; rfl)); intro gb154 hg w9 hbox hb; have n0_ := Aside0.mk (IsS35.below (by repeat (first | (with_reducible first | exact HI153.out | apply IsS35.alloc | apply IsS35.drewN | apply IsS35.drew | apply IsS35.set_0 | apply IsS35.set_1) | exact HI153.out)) hb); have n1_ := Aside0.mk (below_step (by repeat (first | (with_reducible first | exact HB.out | apply below_alloc | apply pw_below_drewN | apply below_drew1 | refine below_set ?_ (IsS35.ge HI153.out)) | exact HB.out)) hb); have n2_ := Aside0.mk (hbox); have n3_ := Aside0.mk ((by rw [hg]; exact (below_size (by repeat (first | (with_reducible first | exact HB.out | apply below_alloc | apply pw_below_drewN | apply below_drew1 | refine below_set ?_ (IsS35.ge HI153.out)) | exact HB.out))) : w.heap.size ≤ gb154)); have n4_ := Aside0.mk ((by rw [hg]; exact (below_size (by repeat (first | (with_reducible first | exact HB.out | apply below_alloc | apply pw_below_drewN | apply below_drew1 | refine below_set ?_ (IsS35.ge HI153.out)) | exact HB.out))) : w.heap.size ≤ gb154)); have n5_ := Aside0.mk ((by rw [hg]; exact Nat.ne_of_lt (IsS35.lt (show IsS35 w _ gb153 a0 0 from by repeat (first | (with_reducible first | exact HI153.out | apply IsS35.alloc | apply IsS35.drewN | apply IsS35.drew | apply IsS35.set_0 | apply IsS35.set_1) | exact HI153.out))) : gb153 ≠ gb154)); have n6_ := Aside0.mk ((by rw [hg]; exact Nat.ne_of_gt (IsS35.lt (show IsS35 w _ gb153 a0 0 from by repeat (first | (with_reducible first | exact HI153.out | apply IsS35.alloc | apply IsS35.drewN | apply IsS35.drew | apply IsS35.set_0 | apply IsS35.set_1) | exact HI153.out))) : gb154 ≠ gb153)); clear HI153; clear HB; have HI153 := n0_; have HB := n1_; have BK154 := n2_; have GW154 := n3_; have GE154 := n4_; have NB153_154 := n5_; have NB154_153 := n6_; clear n0_ n1_ n2_ n3_ n4_ n5_ n6_; clear hb hbox hg; have hnb10 := NB154_153.out; have hnc10 := NB153_154.out; have hcz11_0 : w9.cell? ⟨gb154, 0, none⟩ = some (.string (⟨#[]⟩ : ByteArray)) := (blk_cell BK154.out 0).trans rfl; have hcz11_1 : w9.cell? ⟨gb154, 1, none⟩ = some (.int .i64 0) := (blk_cell BK154.out 1).trans rfl; have hfz11_0 := blk_frozen BK154.out 0; have hfz11_1 := blk_frozen BK154.out 1))
        go_loopg [33] kj2 (fun kq v33 w' => ∃ (x33_2 : Int) (x154000_2 : ByteArray) (x154001_2 : Int) (x155000_2 : ByteArray) (x155001_2 : Int), v33 = .int .i64 x33_2 ∧ Aside0 (bosunlaw02_PackTakes.l0 kq l1 (l1.length : Int) x33_2 x154000_2 x154001_2 x155000_2 x155001_2 = some r) ∧ Aside0 (kq ≤ kj2) ∧ Aside0 (w'.heap[gb154]? = some (.cells #[.string x155000_2, .int .i64 x155001_2] 37 (0, 0))) ∧ Aside0 (IsS35 w w' gb153 x154000_2 x154001_2) ∧ Aside0 (Below w.heap.size w w'))
        case atStart => exact ⟨(0), (a0), (0), (a0), (0), (by first | rfl | (simp; done) | (simp [*]; done)), H', ⟨Nat.le_refl _⟩, ⟨by (with_reducible repeat (first | refine blk_drewN ?_ _ | refine blk_drew ?_ | refine blk_alloc ?_ _)); refine blk_put (cs := #[.string a0, .int .i64 0]) ?_ 1 _ rfl; (with_reducible repeat (first | refine blk_drewN ?_ _ | refine blk_drew ?_ | refine blk_alloc ?_ _)); refine blk_put (cs := #[.string (⟨#[]⟩ : ByteArray), .int .i64 0]) ?_ 0 _ rfl; (with_reducible repeat (first | refine blk_drewN ?_ _ | refine blk_drew ?_ | refine blk_alloc ?_ _)); exact BK154.out⟩, ⟨by repeat (first | (with_reducible first | exact HI153.out | apply IsS35.alloc | apply IsS35.drewN | apply IsS35.drew | apply IsS35.set_0 | apply IsS35.set_1 | refine IsS35.far ?_ NB153_154.out _) | exact HI153.out)⟩, ⟨by repeat (first | (with_reducible first | exact HB.out | apply below_alloc | apply pw_below_drewN | apply below_drew1 | refine below_set ?_ (IsS35.ge HI153.out) | refine below_set ?_ GE154.out) | exact HB.out)⟩⟩
        case round =>
          clear H'
          try clear c1
          try clear p2
          try clear c4
          try clear c4b0
          try clear c4b1
          try clear c5
          try clear c8
          try clear c10
          try clear hcz11_0
          try clear hcz11_1
          try clear hfz11_0
          try clear hfz11_1
          try clear p2
          obtain ⟨x33_2, x154000_2, x154001_2, x155000_2, x155001_2, rfl, HA, HK2, BK154, HI153, HB⟩ := hrel
          cases gk with
          | zero => exact absurd HA.out (by simp [bosunlaw02_PackTakes.l0])
          | succ k2 =>
            have H := HA.out
            clear HA
            simp only [bosunlaw02_PackTakes.l0] at H
            by_cases c12 : x33_2 < (l1.length : Int)
            · rw [if_pos c12] at H
              have c12b0 : decide (x33_2 < (l1.length : Int)) = true := decide_eq_true c12
              clear c12
              by_cases c13 : 0 ≤ x33_2
              · rw [if_pos c13] at H
                have c13b0 : decide (0 ≤ x33_2) = true := decide_eq_true c13
                clear c13
                by_cases c14 : x33_2 < (l1.length : Int)
                · rw [if_pos c14] at H
                  have c14b0 : decide (x33_2 < (l1.length : Int)) = true := decide_eq_true c14
                  clear c14
                  have HC15 := Aside0.mk H
                  clear H
                  have p156 : 0 ≤ (x33_2 : Int) := of_decide_eq_true (by first | (with_reducible assumption) | assumption)
                  have q156 : x33_2 < (l1.length : Int) := of_decide_eq_true (by first | (with_reducible assumption) | assumption)
                  obtain ⟨ad156, e156, hx156_0, hx156_1⟩ := at_T39 HR1.out x33_2 p156 q156
                  cases e156
                  replace hx156_0 := (HB.out.cell (World.block_lt_of_cell? w _ hx156_0)).trans hx156_0
                  replace hx156_1 := (HB.out.cell (World.block_lt_of_cell? w _ hx156_1)).trans hx156_1
                  replace p156 := eq_true p156
                  replace q156 := eq_true q156
                  go_upto_block 2 with (first | ((with_reducible refine gate_dst (N := 8) rfl ?_); (try (refine gate_guard (by rfl) ?_; dsimp only)); refine box_event ?hg (N := 8) ?hd (cs := #[.int .u8 0, .int .i64 0]) (t := 39) ?hr ?_; (case hd => rfl); (case hg => rfl); (case hr => first | (go_simp; done) | (go_simp; rfl)); intro gb157 hg w16 hbox hb; have n0_ := Aside0.mk (blk_below (g := gb154) (o := .cells #[.string x155000_2, .int .i64 x155001_2] 37 (0, 0)) (by (with_reducible repeat (first | refine blk_drewN ?_ _ | refine blk_drew ?_ | refine blk_alloc ?_ _)); exact BK154.out) hb); have n1_ := Aside0.mk (IsS35.below (by repeat (first | (with_reducible first | exact HI153.out | apply IsS35.alloc | apply IsS35.drewN | apply IsS35.drew | apply IsS35.set_0 | apply IsS35.set_1 | refine IsS35.far ?_ NB153_154.out _) | exact HI153.out)) hb); have n2_ := Aside0.mk (below_step (by repeat (first | (with_reducible first | exact HB.out | apply below_alloc | apply pw_below_drewN | apply below_drew1 | refine below_set ?_ (IsS35.ge HI153.out) | refine below_set ?_ GE154.out) | exact HB.out)) hb); have n3_ := Aside0.mk (hbox); have n4_ := Aside0.mk ((by rw [hg]; exact (below_size (by repeat (first | (with_reducible first | exact HB.out | apply below_alloc | apply pw_below_drewN | apply below_drew1 | refine below_set ?_ (IsS35.ge HI153.out) | refine below_set ?_ GE154.out) | exact HB.out))) : w.heap.size ≤ gb157)); have n5_ := Aside0.mk ((by rw [hg]; exact (below_size (by repeat (first | (with_reducible first | exact HB.out | apply below_alloc | apply pw_below_drewN | apply below_drew1 | refine below_set ?_ (IsS35.ge HI153.out) | refine below_set ?_ GE154.out) | exact HB.out))) : w.heap.size ≤ gb157)); have n6_ := Aside0.mk ((by rw [hg]; exact Nat.ne_of_lt (blk_lt (g := gb154) (o := .cells #[.string x155000_2, .int .i64 x155001_2] 37 (0, 0)) (by (with_reducible repeat (first | refine blk_drewN ?_ _ | refine blk_drew ?_ | refine blk_alloc ?_ _)); exact BK154.out)) : gb154 ≠ gb157)); have n7_ := Aside0.mk ((by rw [hg]; exact Nat.ne_of_gt (blk_lt (g := gb154) (o := .cells #[.string x155000_2, .int .i64 x155001_2] 37 (0, 0)) (by (with_reducible repeat (first | refine blk_drewN ?_ _ | refine blk_drew ?_ | refine blk_alloc ?_ _)); exact BK154.out)) : gb157 ≠ gb154)); have n8_ := Aside0.mk ((by rw [hg]; exact Nat.ne_of_lt (IsS35.lt (show IsS35 w _ gb153 x154000_2 x154001_2 from by repeat (first | (with_reducible first | exact HI153.out | apply IsS35.alloc | apply IsS35.drewN | apply IsS35.drew | apply IsS35.set_0 | apply IsS35.set_1 | refine IsS35.far ?_ NB153_154.out _) | exact HI153.out))) : gb153 ≠ gb157)); have n9_ := Aside0.mk ((by rw [hg]; exact Nat.ne_of_gt (IsS35.lt (show IsS35 w _ gb153 x154000_2 x154001_2 from by repeat (first | (with_reducible first | exact HI153.out | apply IsS35.alloc | apply IsS35.drewN | apply IsS35.drew | apply IsS35.set_0 | apply IsS35.set_1 | refine IsS35.far ?_ NB153_154.out _) | exact HI153.out))) : gb157 ≠ gb153)); clear BK154; clear HI153; clear HB; have BK154 := n0_; have HI153 := n1_; have HB := n2_; have BK157 := n3_; have GW157 := n4_; have GE157 := n5_; have NB154_157 := n6_; have NB157_154 := n7_; have NB153_157 := n8_; have NB157_153 := n9_; clear n0_ n1_ n2_ n3_ n4_ n5_ n6_ n7_ n8_ n9_; clear hb hbox hg; have hnb17 := NB157_154.out; have hnc17 := NB154_157.out; have hnb18 := NB157_153.out; have hnc18 := NB153_157.out; have hcz19_0 : w16.cell? ⟨gb157, 0, none⟩ = some (.int .u8 0) := (blk_cell BK157.out 0).trans rfl; have hcz19_1 : w16.cell? ⟨gb157, 1, none⟩ = some (.int .i64 0) := (blk_cell BK157.out 1).trans rfl; have hfz19_0 := blk_frozen BK157.out 0; have hfz19_1 := blk_frozen BK157.out 1))
                  (try simp only [Act.put, List.setIfInBounds_toArray, List.set_cons_zero, List.set_cons_succ])
                  go_cut [] (fun wc => ∃ (kq : Nat) (x154000_14 : ByteArray) (x154001_14 : Int) (x155000_14 : ByteArray) (x155001_14 : Int), Aside0 (bosunlaw02_PackTakes.j2 kq l1 (l1.length : Int) x33_2 x154000_14 x154001_14 x155000_14 x155001_14 = some r) ∧ Aside0 (kq ≤ k2) ∧ Aside0 (wc.heap[gb154]? = some (.cells #[.string x155000_14, .int .i64 x155001_14] 37 (0, 0))) ∧ Aside0 (wc.heap[gb157]? = some (.cells #[.int .u8 ((rd_T39 l1 x33_2).f0), .int .i64 ((rd_T39 l1 x33_2).f1)] 39 (0, 0))) ∧ Aside0 (IsS35 w wc gb153 x154000_14 x154001_14) ∧ Aside0 (Below w.heap.size w wc))
                  case first =>
                    have H := HC15.out
                    clear HC15
                    by_cases c20 : ((rd_T39 l1 x33_2).f0) = 0
                    · rw [if_pos c20] at H
                      have c20b0 : (((rd_T39 l1 x33_2).f0) == 0) = true := beq_iff_eq.mpr c20
                      have c20b1 : (((rd_T39 l1 x33_2).f0) != 0) = false := bne_eq_false_iff_eq.mpr c20
                      clear c20
                      (first | rw [c20b0] | (simp only [i64_w, i32_w]; rw [c20b0]) | skip)
                      replace H := Option.bind_eq_some_iff.mp H
                      obtain ⟨⟨t158, t159, t160⟩, A210, H⟩ := H
                      replace H : ((pack_Taker_Take.f k2 x154000_2 x154001_2 ((rd_T39 l1 x33_2).f1)).bind fun bt162 => (if bt162.1 = t160 then (bosunlaw02_PackTakes.j2 k2 l1 (l1.length : Int) x33_2 bt162.2.1 bt162.2.2 t158 t159) else (some false))) = some r := H
                      have A21 := Aside0.mk A210
                      clear A210
                      replace H := Option.bind_eq_some_iff.mp H
                      obtain ⟨⟨t162, t163, t164⟩, A220, H⟩ := H
                      replace H : (if t162 = t160 then (bosunlaw02_PackTakes.j2 k2 l1 (l1.length : Int) x33_2 t163 t164 t158 t159) else (some false)) = some r := H
                      have A22 := Aside0.mk A220
                      clear A220
                      by_cases c23 : t162 = t160
                      · rw [if_pos c23] at H
                        have c23b0 : (t162 == t160) = true := beq_iff_eq.mpr c23
                        have c23b1 : (t162 != t160) = false := bne_eq_false_iff_eq.mpr c23
                        clear c23
                        have H' := Aside0.mk H
                        clear H
                        have hnb24 := NB154_157.out
                        have hnc24 := NB157_154.out
                        have hnb25 := NB154_153.out
                        have hnc25 := NB153_154.out
                        have hcz26_0 : w16.cell? ⟨gb154, 0, none⟩ = some (.string x155000_2) := (blk_cell BK154.out 0).trans rfl
                        have hcz26_1 : w16.cell? ⟨gb154, 1, none⟩ = some (.int .i64 x155001_2) := (blk_cell BK154.out 1).trans rfl
                        have hfz26_0 := blk_frozen BK154.out 0
                        have hfz26_1 := blk_frozen BK154.out 1
                        have hnb27 := NB157_153.out
                        have hnc27 := NB153_157.out
                        have hcz28_0 : w16.cell? ⟨gb157, 0, none⟩ = some (.int .u8 0) := (blk_cell BK157.out 0).trans rfl
                        have hcz28_1 : w16.cell? ⟨gb157, 1, none⟩ = some (.int .i64 0) := (blk_cell BK157.out 1).trans rfl
                        have hfz28_0 := blk_frozen BK157.out 0
                        have hfz28_1 := blk_frozen BK157.out 1
                        go_wp2_with (first | ((with_reducible refine gate_callee (f := 16) rfl ?_); refine goesL_ (some 45) rfl rfl Try.func16 (by kernel_rfl) rfl #[.agg #[.string x155000_2, .int .i64 x155001_2], .int .i64 ((rd_T39 l1 x33_2).f1)] rfl (by (try simp only [List.map_toArray, List.map_cons, List.map_nil]); first | done | rfl | (simp only [List.length_drop, List.length_take]; rfl) | (simp (disch := first | omega | (simp at *; omega)) only [u64_id, i64_id, u8_id]; rfl)) ?_; (with_reducible refine (bosunref02_Take.calls k2 x155000_2 x155001_2 ((rd_T39 l1 x33_2).f1) t158 t159 t160 _ A21.out).mono ?_); rintro e w29 ⟨rfl, hb⟩; refine ⟨_, rfl, ?_⟩; have n0_ := Aside0.mk (blk_below (g := gb154) (o := .cells #[.string x155000_2, .int .i64 x155001_2] 37 (0, 0)) (by (with_reducible repeat (first | refine blk_drewN ?_ _ | refine blk_drew ?_ | refine blk_alloc ?_ _)); refine blk_far ?_ NB154_157.out _; (with_reducible repeat (first | refine blk_drewN ?_ _ | refine blk_drew ?_ | refine blk_alloc ?_ _)); refine blk_far ?_ NB154_157.out _; (with_reducible repeat (first | refine blk_drewN ?_ _ | refine blk_drew ?_ | refine blk_alloc ?_ _)); exact BK154.out) hb); have n1_ := Aside0.mk (IsS35.below (show IsS35 w ((w16.setCell ⟨gb157, 0, none⟩ (.int .u8 ((rd_T39 l1 x33_2).f0))).setCell ⟨gb157, 1, none⟩ (.int .i64 ((rd_T39 l1 x33_2).f1))) gb153 x154000_2 x154001_2 from by repeat (first | (with_reducible first | exact HI153.out | apply IsS35.alloc | apply IsS35.drewN | apply IsS35.drew | apply IsS35.set_0 | apply IsS35.set_1 | refine IsS35.far ?_ NB153_154.out _ | refine IsS35.far ?_ NB153_157.out _) | exact HI153.out)) hb); have n2_ := Aside0.mk (blk_below (g := gb157) (o := .cells #[.int .u8 ((rd_T39 l1 x33_2).f0), .int .i64 ((rd_T39 l1 x33_2).f1)] 39 (0, 0)) (by (with_reducible repeat (first | refine blk_drewN ?_ _ | refine blk_drew ?_ | refine blk_alloc ?_ _)); refine blk_put (cs := #[.int .u8 ((rd_T39 l1 x33_2).f0), .int .i64 0]) ?_ 1 _ rfl; (with_reducible repeat (first | refine blk_drewN ?_ _ | refine blk_drew ?_ | refine blk_alloc ?_ _)); refine blk_put (cs := #[.int .u8 0, .int .i64 0]) ?_ 0 _ rfl; (with_reducible repeat (first | refine blk_drewN ?_ _ | refine blk_drew ?_ | refine blk_alloc ?_ _)); exact BK157.out) hb); have n3_ := Aside0.mk (below_step (by repeat (first | (with_reducible first | exact HB.out | apply below_alloc | apply pw_below_drewN | apply below_drew1 | refine below_set ?_ (IsS35.ge HI153.out) | refine below_set ?_ GE154.out | refine below_set ?_ GE157.out) | exact HB.out)) hb); clear BK154; clear HI153; clear BK157; clear HB; have BK154 := n0_; have HI153 := n1_; have BK157 := n2_; have HB := n3_; clear n0_ n1_ n2_ n3_; (try clear hb); (try clear hb2); (try clear hk); (try clear hi)) | ((with_reducible refine gate_dst (N := 9) rfl ?_); (try (refine gate_guard (by rfl) ?_; dsimp only)); refine box_event ?hg (N := 9) ?hd (cs := #[.string (⟨#[]⟩ : ByteArray), .int .i64 0]) (t := 37) ?hr ?_; (case hd => rfl); (case hg => rfl); (case hr => first | (go_simp; done) | (go_simp; rfl)); intro gb161 hg w30 hbox hb; have n0_ := Aside0.mk (blk_below (g := gb154) (o := .cells #[.string x155000_2, .int .i64 x155001_2] 37 (0, 0)) (by (with_reducible repeat (first | refine blk_drewN ?_ _ | refine blk_drew ?_ | refine blk_alloc ?_ _)); exact BK154.out) hb); have n1_ := Aside0.mk (IsS35.below (by repeat (first | (with_reducible first | exact HI153.out | apply IsS35.alloc | apply IsS35.drewN | apply IsS35.drew | apply IsS35.set_0 | apply IsS35.set_1 | refine IsS35.far ?_ NB153_154.out _ | refine IsS35.far ?_ NB153_157.out _) | exact HI153.out)) hb); have n2_ := Aside0.mk (blk_below (g := gb157) (o := .cells #[.int .u8 ((rd_T39 l1 x33_2).f0), .int .i64 ((rd_T39 l1 x33_2).f1)] 39 (0, 0)) (by (with_reducible repeat (first | refine blk_drewN ?_ _ | refine blk_drew ?_ | refine blk_alloc ?_ _)); exact BK157.out) hb); have n3_ := Aside0.mk (below_step (by repeat (first | (with_reducible first | exact HB.out | apply below_alloc | apply pw_below_drewN | apply below_drew1 | refine below_set ?_ (IsS35.ge HI153.out) | refine below_set ?_ GE154.out | refine below_set ?_ GE157.out) | exact HB.out)) hb); have n4_ := Aside0.mk (hbox); have n5_ := Aside0.mk ((by rw [hg]; exact (below_size (by repeat (first | (with_reducible first | exact HB.out | apply below_alloc | apply pw_below_drewN | apply below_drew1 | refine below_set ?_ (IsS35.ge HI153.out) | refine below_set ?_ GE154.out | refine below_set ?_ GE157.out) | exact HB.out))) : w.heap.size ≤ gb161)); have n6_ := Aside0.mk ((by rw [hg]; exact (below_size (by repeat (first | (with_reducible first | exact HB.out | apply below_alloc | apply pw_below_drewN | apply below_drew1 | refine below_set ?_ (IsS35.ge HI153.out) | refine below_set ?_ GE154.out | refine below_set ?_ GE157.out) | exact HB.out))) : w.heap.size ≤ gb161)); have n7_ := Aside0.mk ((by rw [hg]; exact Nat.ne_of_lt (blk_lt (g := gb154) (o := .cells #[.string x155000_2, .int .i64 x155001_2] 37 (0, 0)) (by (with_reducible repeat (first | refine blk_drewN ?_ _ | refine blk_drew ?_ | refine blk_alloc ?_ _)); exact BK154.out)) : gb154 ≠ gb161)); have n8_ := Aside0.mk ((by rw [hg]; exact Nat.ne_of_gt (blk_lt (g := gb154) (o := .cells #[.string x155000_2, .int .i64 x155001_2] 37 (0, 0)) (by (with_reducible repeat (first | refine blk_drewN ?_ _ | refine blk_drew ?_ | refine blk_alloc ?_ _)); exact BK154.out)) : gb161 ≠ gb154)); have n9_ := Aside0.mk ((by rw [hg]; exact Nat.ne_of_lt (blk_lt (g := gb157) (o := .cells #[.int .u8 ((rd_T39 l1 x33_2).f0), .int .i64 ((rd_T39 l1 x33_2).f1)] 39 (0, 0)) (by (with_reducible repeat (first | refine blk_drewN ?_ _ | refine blk_drew ?_ | refine blk_alloc ?_ _)); exact BK157.out)) : gb157 ≠ gb161)); have n10_ := Aside0.mk ((by rw [hg]; exact Nat.ne_of_gt (blk_lt (g := gb157) (o := .cells #[.int .u8 ((rd_T39 l1 x33_2).f0), .int .i64 ((rd_T39 l1 x33_2).f1)] 39 (0, 0)) (by (with_reducible repeat (first | refine blk_drewN ?_ _ | refine blk_drew ?_ | refine blk_alloc ?_ _)); exact BK157.out)) : gb161 ≠ gb157)); have n11_ := Aside0.mk ((by rw [hg]; exact Nat.ne_of_lt (IsS35.lt (show IsS35 w _ gb153 x154000_2 x154001_2 from by repeat (first | (with_reducible first | exact HI153.out | apply IsS35.alloc | apply IsS35.drewN | apply IsS35.drew | apply IsS35.set_0 | apply IsS35.set_1 | refine IsS35.far ?_ NB153_154.out _ | refine IsS35.far ?_ NB153_157.out _) | exact HI153.out))) : gb153 ≠ gb161)); have n12_ := Aside0.mk ((by rw [hg]; exact Nat.ne_of_gt (IsS35.lt (show IsS35 w _ gb153 x154000_2 x154001_2 from by repeat (first | (with_reducible first | exact HI153.out | apply IsS35.alloc | apply IsS35.drewN | apply IsS35.drew | apply IsS35.set_0 | apply IsS35.set_1 | refine IsS35.far ?_ NB153_154.out _ | refine IsS35.far ?_ NB153_157.out _) | exact HI153.out))) : gb161 ≠ gb153)); clear BK154; clear HI153; clear BK157; clear HB; have BK154 := n0_; have HI153 := n1_; have BK157 := n2_; have HB := n3_; have BK161 := n4_; have GW161 := n5_; have GE161 := n6_; have NB154_161 := n7_; have NB161_154 := n8_; have NB157_161 := n9_; have NB161_157 := n10_; have NB153_161 := n11_; have NB161_153 := n12_; clear n0_ n1_ n2_ n3_ n4_ n5_ n6_ n7_ n8_ n9_ n10_ n11_ n12_; clear hb hbox hg; have hnb31 := NB161_154.out; have hnc31 := NB154_161.out; have hnb32 := NB161_157.out; have hnc32 := NB157_161.out; have hnb33 := NB161_153.out; have hnc33 := NB153_161.out; have hcz34_0 : w30.cell? ⟨gb161, 0, none⟩ = some (.string (⟨#[]⟩ : ByteArray)) := (blk_cell BK161.out 0).trans rfl; have hcz34_1 : w30.cell? ⟨gb161, 1, none⟩ = some (.int .i64 0) := (blk_cell BK161.out 1).trans rfl; have hfz34_0 := blk_frozen BK161.out 0; have hfz34_1 := blk_frozen BK161.out 1; have hcz35_0 : w30.cell? ⟨gb154, 0, none⟩ = some (.string x155000_2) := (blk_cell BK154.out 0).trans rfl; have hcz35_1 : w30.cell? ⟨gb154, 1, none⟩ = some (.int .i64 x155001_2) := (blk_cell BK154.out 1).trans rfl; have hfz35_0 := blk_frozen BK154.out 0; have hfz35_1 := blk_frozen BK154.out 1; have hcz36_0 : w30.cell? ⟨gb157, 0, none⟩ = some (.int .u8 ((rd_T39 l1 x33_2).f0)) := (blk_cell BK157.out 0).trans rfl; have hcz36_1 : w30.cell? ⟨gb157, 1, none⟩ = some (.int .i64 ((rd_T39 l1 x33_2).f1)) := (blk_cell BK157.out 1).trans rfl; have hfz36_0 := blk_frozen BK157.out 0; have hfz36_1 := blk_frozen BK157.out 1) | ((with_reducible refine gate_callee (f := 17) rfl ?_); refine goesL_ (some 52) rfl rfl Try.func17 (by kernel_rfl) rfl #[.pointer (some ⟨gb153, 0, none⟩), .int .i64 ((rd_T39 l1 x33_2).f1)] rfl (by (try simp only [List.map_toArray, List.map_cons, List.map_nil]); first | done | rfl | (simp only [List.length_drop, List.length_take]; rfl) | (simp (disch := first | omega | (simp at *; omega)) only [u64_id, i64_id, u8_id]; rfl)) ?_; (with_reducible refine (pack_Taker_Take.calls k2 gb153 x154000_2 x154001_2 ((rd_T39 l1 x33_2).f1) t162 t163 t164 w _ ?side1 ?side2 A22.out).mono ?_); (case side1 => repeat (first | (with_reducible first | exact HI153.out | apply IsS35.alloc | apply IsS35.drewN | apply IsS35.drew | apply IsS35.set_0 | apply IsS35.set_1 | refine IsS35.far ?_ NB153_154.out _ | refine IsS35.far ?_ NB153_157.out _ | refine IsS35.far ?_ NB153_161.out _) | exact HI153.out)); (case side2 => repeat (first | (with_reducible first | exact HB.out | apply below_alloc | apply pw_below_drewN | apply below_drew1 | refine below_set ?_ (IsS35.ge HI153.out) | refine below_set ?_ GE154.out | refine below_set ?_ GE157.out | refine below_set ?_ GE161.out) | exact HB.out)); rintro e w37 ⟨rfl, hi, hb, hk⟩; refine ⟨_, rfl, ?_⟩; have n0_ := Aside0.mk (KeepBut.blk hk (g' := gb154) (o := .cells #[.string t158, .int .i64 t159] 37 (0, 0)) (by (with_reducible repeat (first | refine blk_drewN ?_ _ | refine blk_drew ?_ | refine blk_alloc ?_ _)); refine blk_put (cs := #[.string t158, .int .i64 x155001_2]) ?_ 1 _ rfl; (with_reducible repeat (first | refine blk_drewN ?_ _ | refine blk_drew ?_ | refine blk_alloc ?_ _)); refine blk_put (cs := #[.string x155000_2, .int .i64 x155001_2]) ?_ 0 _ rfl; (with_reducible repeat (first | refine blk_drewN ?_ _ | refine blk_drew ?_ | refine blk_alloc ?_ _)); refine blk_far ?_ NB154_161.out _; (with_reducible repeat (first | refine blk_drewN ?_ _ | refine blk_drew ?_ | refine blk_alloc ?_ _)); refine blk_far ?_ NB154_161.out _; (with_reducible repeat (first | refine blk_drewN ?_ _ | refine blk_drew ?_ | refine blk_alloc ?_ _)); exact BK154.out) NB154_153.out (by simp)); have n1_ := Aside0.mk (KeepBut.blk hk (g' := gb157) (o := .cells #[.int .u8 ((rd_T39 l1 x33_2).f0), .int .i64 ((rd_T39 l1 x33_2).f1)] 39 (0, 0)) (by (with_reducible repeat (first | refine blk_drewN ?_ _ | refine blk_drew ?_ | refine blk_alloc ?_ _)); refine blk_far ?_ NB157_154.out _; (with_reducible repeat (first | refine blk_drewN ?_ _ | refine blk_drew ?_ | refine blk_alloc ?_ _)); refine blk_far ?_ NB157_154.out _; (with_reducible repeat (first | refine blk_drewN ?_ _ | refine blk_drew ?_ | refine blk_alloc ?_ _)); refine blk_far ?_ NB157_161.out _; (with_reducible repeat (first | refine blk_drewN ?_ _ | refine blk_drew ?_ | refine blk_alloc ?_ _)); refine blk_far ?_ NB157_161.out _; (with_reducible repeat (first | refine blk_drewN ?_ _ | refine blk_drew ?_ | refine blk_alloc ?_ _)); exact BK157.out) NB157_153.out (by simp)); have n2_ := Aside0.mk (KeepBut.blk hk (g' := gb161) (o := .cells #[.string t158, .int .i64 t159] 37 (0, 0)) (by (with_reducible repeat (first | refine blk_drewN ?_ _ | refine blk_drew ?_ | refine blk_alloc ?_ _)); refine blk_far ?_ NB161_154.out _; (with_reducible repeat (first | refine blk_drewN ?_ _ | refine blk_drew ?_ | refine blk_alloc ?_ _)); refine blk_far ?_ NB161_154.out _; (with_reducible repeat (first | refine blk_drewN ?_ _ | refine blk_drew ?_ | refine blk_alloc ?_ _)); refine blk_put (cs := #[.string t158, .int .i64 0]) ?_ 1 _ rfl; (with_reducible repeat (first | refine blk_drewN ?_ _ | refine blk_drew ?_ | refine blk_alloc ?_ _)); refine blk_put (cs := #[.string (⟨#[]⟩ : ByteArray), .int .i64 0]) ?_ 0 _ rfl; (with_reducible repeat (first | refine blk_drewN ?_ _ | refine blk_drew ?_ | refine blk_alloc ?_ _)); exact BK161.out) NB161_153.out (by simp)); have n3_ := Aside0.mk (hb); have n4_ := Aside0.mk (hi); clear BK154; clear BK157; clear BK161; clear HB; clear HI153; have BK154 := n0_; have BK157 := n1_; have BK161 := n2_; have HB := n3_; have HI153 := n4_; clear n0_ n1_ n2_ n3_ n4_; (try clear hb); (try clear hb2); (try clear hk); (try clear hi)))
                        go_meet
                        case rel => exact ⟨_, (t163), (t164), (t158), (t159), H', ⟨by have := HJ2.out; have := HK2.out; first | omega | exact Nat.le_refl _⟩, ⟨by (with_reducible repeat (first | refine blk_drewN ?_ _ | refine blk_drew ?_ | refine blk_alloc ?_ _)); exact BK154.out⟩, ⟨by (with_reducible repeat (first | refine blk_drewN ?_ _ | refine blk_drew ?_ | refine blk_alloc ?_ _)); exact BK157.out⟩, ⟨by repeat (first | (with_reducible first | exact HI153.out | apply IsS35.alloc | apply IsS35.drewN | apply IsS35.drew | apply IsS35.set_0 | apply IsS35.set_1 | refine IsS35.far ?_ NB153_154.out _ | refine IsS35.far ?_ NB153_157.out _ | refine IsS35.far ?_ NB153_161.out _) | exact HI153.out)⟩, ⟨by repeat (first | (with_reducible first | exact HB.out | apply below_alloc | apply pw_below_drewN | apply below_drew1 | refine below_set ?_ (IsS35.ge HI153.out) | refine below_set ?_ GE154.out | refine below_set ?_ GE157.out | refine below_set ?_ GE161.out) | exact HB.out)⟩⟩
                      · rw [if_neg c23] at H
                        have c23b0 : (t162 == t160) = false := beq_eq_false_iff_ne.mpr c23
                        have c23b1 : (t162 != t160) = true := bne_iff_ne.mpr c23
                        obtain rfl := Option.some.inj H
                        have hnb38 := NB154_157.out
                        have hnc38 := NB157_154.out
                        have hnb39 := NB154_153.out
                        have hnc39 := NB153_154.out
                        have hcz40_0 : w16.cell? ⟨gb154, 0, none⟩ = some (.string x155000_2) := (blk_cell BK154.out 0).trans rfl
                        have hcz40_1 : w16.cell? ⟨gb154, 1, none⟩ = some (.int .i64 x155001_2) := (blk_cell BK154.out 1).trans rfl
                        have hfz40_0 := blk_frozen BK154.out 0
                        have hfz40_1 := blk_frozen BK154.out 1
                        have hnb41 := NB157_153.out
                        have hnc41 := NB153_157.out
                        have hcz42_0 : w16.cell? ⟨gb157, 0, none⟩ = some (.int .u8 0) := (blk_cell BK157.out 0).trans rfl
                        have hcz42_1 : w16.cell? ⟨gb157, 1, none⟩ = some (.int .i64 0) := (blk_cell BK157.out 1).trans rfl
                        have hfz42_0 := blk_frozen BK157.out 0
                        have hfz42_1 := blk_frozen BK157.out 1
                        go_wp2_with (first | ((with_reducible refine gate_callee (f := 16) rfl ?_); refine goesL_ (some 45) rfl rfl Try.func16 (by kernel_rfl) rfl #[.agg #[.string x155000_2, .int .i64 x155001_2], .int .i64 ((rd_T39 l1 x33_2).f1)] rfl (by (try simp only [List.map_toArray, List.map_cons, List.map_nil]); first | done | rfl | (simp only [List.length_drop, List.length_take]; rfl) | (simp (disch := first | omega | (simp at *; omega)) only [u64_id, i64_id, u8_id]; rfl)) ?_; (with_reducible refine (bosunref02_Take.calls k2 x155000_2 x155001_2 ((rd_T39 l1 x33_2).f1) t158 t159 t160 _ A21.out).mono ?_); rintro e w43 ⟨rfl, hb⟩; refine ⟨_, rfl, ?_⟩; have n0_ := Aside0.mk (blk_below (g := gb154) (o := .cells #[.string x155000_2, .int .i64 x155001_2] 37 (0, 0)) (by (with_reducible repeat (first | refine blk_drewN ?_ _ | refine blk_drew ?_ | refine blk_alloc ?_ _)); refine blk_far ?_ NB154_157.out _; (with_reducible repeat (first | refine blk_drewN ?_ _ | refine blk_drew ?_ | refine blk_alloc ?_ _)); refine blk_far ?_ NB154_157.out _; (with_reducible repeat (first | refine blk_drewN ?_ _ | refine blk_drew ?_ | refine blk_alloc ?_ _)); exact BK154.out) hb); have n1_ := Aside0.mk (IsS35.below (show IsS35 w ((w16.setCell ⟨gb157, 0, none⟩ (.int .u8 ((rd_T39 l1 x33_2).f0))).setCell ⟨gb157, 1, none⟩ (.int .i64 ((rd_T39 l1 x33_2).f1))) gb153 x154000_2 x154001_2 from by repeat (first | (with_reducible first | exact HI153.out | apply IsS35.alloc | apply IsS35.drewN | apply IsS35.drew | apply IsS35.set_0 | apply IsS35.set_1 | refine IsS35.far ?_ NB153_154.out _ | refine IsS35.far ?_ NB153_157.out _) | exact HI153.out)) hb); have n2_ := Aside0.mk (blk_below (g := gb157) (o := .cells #[.int .u8 ((rd_T39 l1 x33_2).f0), .int .i64 ((rd_T39 l1 x33_2).f1)] 39 (0, 0)) (by (with_reducible repeat (first | refine blk_drewN ?_ _ | refine blk_drew ?_ | refine blk_alloc ?_ _)); refine blk_put (cs := #[.int .u8 ((rd_T39 l1 x33_2).f0), .int .i64 0]) ?_ 1 _ rfl; (with_reducible repeat (first | refine blk_drewN ?_ _ | refine blk_drew ?_ | refine blk_alloc ?_ _)); refine blk_put (cs := #[.int .u8 0, .int .i64 0]) ?_ 0 _ rfl; (with_reducible repeat (first | refine blk_drewN ?_ _ | refine blk_drew ?_ | refine blk_alloc ?_ _)); exact BK157.out) hb); have n3_ := Aside0.mk (below_step (by repeat (first | (with_reducible first | exact HB.out | apply below_alloc | apply pw_below_drewN | apply below_drew1 | refine below_set ?_ (IsS35.ge HI153.out) | refine below_set ?_ GE154.out | refine below_set ?_ GE157.out) | exact HB.out)) hb); clear BK154; clear HI153; clear BK157; clear HB; have BK154 := n0_; have HI153 := n1_; have BK157 := n2_; have HB := n3_; clear n0_ n1_ n2_ n3_; (try clear hb); (try clear hb2); (try clear hk); (try clear hi)) | ((with_reducible refine gate_dst (N := 9) rfl ?_); (try (refine gate_guard (by rfl) ?_; dsimp only)); refine box_event ?hg (N := 9) ?hd (cs := #[.string (⟨#[]⟩ : ByteArray), .int .i64 0]) (t := 37) ?hr ?_; (case hd => rfl); (case hg => rfl); (case hr => first | (go_simp; done) | (go_simp; rfl)); intro gb161 hg w44 hbox hb; have n0_ := Aside0.mk (blk_below (g := gb154) (o := .cells #[.string x155000_2, .int .i64 x155001_2] 37 (0, 0)) (by (with_reducible repeat (first | refine blk_drewN ?_ _ | refine blk_drew ?_ | refine blk_alloc ?_ _)); exact BK154.out) hb); have n1_ := Aside0.mk (IsS35.below (by repeat (first | (with_reducible first | exact HI153.out | apply IsS35.alloc | apply IsS35.drewN | apply IsS35.drew | apply IsS35.set_0 | apply IsS35.set_1 | refine IsS35.far ?_ NB153_154.out _ | refine IsS35.far ?_ NB153_157.out _) | exact HI153.out)) hb); have n2_ := Aside0.mk (blk_below (g := gb157) (o := .cells #[.int .u8 ((rd_T39 l1 x33_2).f0), .int .i64 ((rd_T39 l1 x33_2).f1)] 39 (0, 0)) (by (with_reducible repeat (first | refine blk_drewN ?_ _ | refine blk_drew ?_ | refine blk_alloc ?_ _)); exact BK157.out) hb); have n3_ := Aside0.mk (below_step (by repeat (first | (with_reducible first | exact HB.out | apply below_alloc | apply pw_below_drewN | apply below_drew1 | refine below_set ?_ (IsS35.ge HI153.out) | refine below_set ?_ GE154.out | refine below_set ?_ GE157.out) | exact HB.out)) hb); have n4_ := Aside0.mk (hbox); have n5_ := Aside0.mk ((by rw [hg]; exact (below_size (by repeat (first | (with_reducible first | exact HB.out | apply below_alloc | apply pw_below_drewN | apply below_drew1 | refine below_set ?_ (IsS35.ge HI153.out) | refine below_set ?_ GE154.out | refine below_set ?_ GE157.out) | exact HB.out))) : w.heap.size ≤ gb161)); have n6_ := Aside0.mk ((by rw [hg]; exact (below_size (by repeat (first | (with_reducible first | exact HB.out | apply below_alloc | apply pw_below_drewN | apply below_drew1 | refine below_set ?_ (IsS35.ge HI153.out) | refine below_set ?_ GE154.out | refine below_set ?_ GE157.out) | exact HB.out))) : w.heap.size ≤ gb161)); have n7_ := Aside0.mk ((by rw [hg]; exact Nat.ne_of_lt (blk_lt (g := gb154) (o := .cells #[.string x155000_2, .int .i64 x155001_2] 37 (0, 0)) (by (with_reducible repeat (first | refine blk_drewN ?_ _ | refine blk_drew ?_ | refine blk_alloc ?_ _)); exact BK154.out)) : gb154 ≠ gb161)); have n8_ := Aside0.mk ((by rw [hg]; exact Nat.ne_of_gt (blk_lt (g := gb154) (o := .cells #[.string x155000_2, .int .i64 x155001_2] 37 (0, 0)) (by (with_reducible repeat (first | refine blk_drewN ?_ _ | refine blk_drew ?_ | refine blk_alloc ?_ _)); exact BK154.out)) : gb161 ≠ gb154)); have n9_ := Aside0.mk ((by rw [hg]; exact Nat.ne_of_lt (blk_lt (g := gb157) (o := .cells #[.int .u8 ((rd_T39 l1 x33_2).f0), .int .i64 ((rd_T39 l1 x33_2).f1)] 39 (0, 0)) (by (with_reducible repeat (first | refine blk_drewN ?_ _ | refine blk_drew ?_ | refine blk_alloc ?_ _)); exact BK157.out)) : gb157 ≠ gb161)); have n10_ := Aside0.mk ((by rw [hg]; exact Nat.ne_of_gt (blk_lt (g := gb157) (o := .cells #[.int .u8 ((rd_T39 l1 x33_2).f0), .int .i64 ((rd_T39 l1 x33_2).f1)] 39 (0, 0)) (by (with_reducible repeat (first | refine blk_drewN ?_ _ | refine blk_drew ?_ | refine blk_alloc ?_ _)); exact BK157.out)) : gb161 ≠ gb157)); have n11_ := Aside0.mk ((by rw [hg]; exact Nat.ne_of_lt (IsS35.lt (show IsS35 w _ gb153 x154000_2 x154001_2 from by repeat (first | (with_reducible first | exact HI153.out | apply IsS35.alloc | apply IsS35.drewN | apply IsS35.drew | apply IsS35.set_0 | apply IsS35.set_1 | refine IsS35.far ?_ NB153_154.out _ | refine IsS35.far ?_ NB153_157.out _) | exact HI153.out))) : gb153 ≠ gb161)); have n12_ := Aside0.mk ((by rw [hg]; exact Nat.ne_of_gt (IsS35.lt (show IsS35 w _ gb153 x154000_2 x154001_2 from by repeat (first | (with_reducible first | exact HI153.out | apply IsS35.alloc | apply IsS35.drewN | apply IsS35.drew | apply IsS35.set_0 | apply IsS35.set_1 | refine IsS35.far ?_ NB153_154.out _ | refine IsS35.far ?_ NB153_157.out _) | exact HI153.out))) : gb161 ≠ gb153)); clear BK154; clear HI153; clear BK157; clear HB; have BK154 := n0_; have HI153 := n1_; have BK157 := n2_; have HB := n3_; have BK161 := n4_; have GW161 := n5_; have GE161 := n6_; have NB154_161 := n7_; have NB161_154 := n8_; have NB157_161 := n9_; have NB161_157 := n10_; have NB153_161 := n11_; have NB161_153 := n12_; clear n0_ n1_ n2_ n3_ n4_ n5_ n6_ n7_ n8_ n9_ n10_ n11_ n12_; clear hb hbox hg; have hnb45 := NB161_154.out; have hnc45 := NB154_161.out; have hnb46 := NB161_157.out; have hnc46 := NB157_161.out; have hnb47 := NB161_153.out; have hnc47 := NB153_161.out; have hcz48_0 : w44.cell? ⟨gb161, 0, none⟩ = some (.string (⟨#[]⟩ : ByteArray)) := (blk_cell BK161.out 0).trans rfl; have hcz48_1 : w44.cell? ⟨gb161, 1, none⟩ = some (.int .i64 0) := (blk_cell BK161.out 1).trans rfl; have hfz48_0 := blk_frozen BK161.out 0; have hfz48_1 := blk_frozen BK161.out 1; have hcz49_0 : w44.cell? ⟨gb154, 0, none⟩ = some (.string x155000_2) := (blk_cell BK154.out 0).trans rfl; have hcz49_1 : w44.cell? ⟨gb154, 1, none⟩ = some (.int .i64 x155001_2) := (blk_cell BK154.out 1).trans rfl; have hfz49_0 := blk_frozen BK154.out 0; have hfz49_1 := blk_frozen BK154.out 1; have hcz50_0 : w44.cell? ⟨gb157, 0, none⟩ = some (.int .u8 ((rd_T39 l1 x33_2).f0)) := (blk_cell BK157.out 0).trans rfl; have hcz50_1 : w44.cell? ⟨gb157, 1, none⟩ = some (.int .i64 ((rd_T39 l1 x33_2).f1)) := (blk_cell BK157.out 1).trans rfl; have hfz50_0 := blk_frozen BK157.out 0; have hfz50_1 := blk_frozen BK157.out 1) | ((with_reducible refine gate_callee (f := 17) rfl ?_); refine goesL_ (some 52) rfl rfl Try.func17 (by kernel_rfl) rfl #[.pointer (some ⟨gb153, 0, none⟩), .int .i64 ((rd_T39 l1 x33_2).f1)] rfl (by (try simp only [List.map_toArray, List.map_cons, List.map_nil]); first | done | rfl | (simp only [List.length_drop, List.length_take]; rfl) | (simp (disch := first | omega | (simp at *; omega)) only [u64_id, i64_id, u8_id]; rfl)) ?_; (with_reducible refine (pack_Taker_Take.calls k2 gb153 x154000_2 x154001_2 ((rd_T39 l1 x33_2).f1) t162 t163 t164 w _ ?side1 ?side2 A22.out).mono ?_); (case side1 => repeat (first | (with_reducible first | exact HI153.out | apply IsS35.alloc | apply IsS35.drewN | apply IsS35.drew | apply IsS35.set_0 | apply IsS35.set_1 | refine IsS35.far ?_ NB153_154.out _ | refine IsS35.far ?_ NB153_157.out _ | refine IsS35.far ?_ NB153_161.out _) | exact HI153.out)); (case side2 => repeat (first | (with_reducible first | exact HB.out | apply below_alloc | apply pw_below_drewN | apply below_drew1 | refine below_set ?_ (IsS35.ge HI153.out) | refine below_set ?_ GE154.out | refine below_set ?_ GE157.out | refine below_set ?_ GE161.out) | exact HB.out)); rintro e w51 ⟨rfl, hi, hb, hk⟩; refine ⟨_, rfl, ?_⟩; have n0_ := Aside0.mk (KeepBut.blk hk (g' := gb154) (o := .cells #[.string t158, .int .i64 t159] 37 (0, 0)) (by (with_reducible repeat (first | refine blk_drewN ?_ _ | refine blk_drew ?_ | refine blk_alloc ?_ _)); refine blk_put (cs := #[.string t158, .int .i64 x155001_2]) ?_ 1 _ rfl; (with_reducible repeat (first | refine blk_drewN ?_ _ | refine blk_drew ?_ | refine blk_alloc ?_ _)); refine blk_put (cs := #[.string x155000_2, .int .i64 x155001_2]) ?_ 0 _ rfl; (with_reducible repeat (first | refine blk_drewN ?_ _ | refine blk_drew ?_ | refine blk_alloc ?_ _)); refine blk_far ?_ NB154_161.out _; (with_reducible repeat (first | refine blk_drewN ?_ _ | refine blk_drew ?_ | refine blk_alloc ?_ _)); refine blk_far ?_ NB154_161.out _; (with_reducible repeat (first | refine blk_drewN ?_ _ | refine blk_drew ?_ | refine blk_alloc ?_ _)); exact BK154.out) NB154_153.out (by simp)); have n1_ := Aside0.mk (KeepBut.blk hk (g' := gb157) (o := .cells #[.int .u8 ((rd_T39 l1 x33_2).f0), .int .i64 ((rd_T39 l1 x33_2).f1)] 39 (0, 0)) (by (with_reducible repeat (first | refine blk_drewN ?_ _ | refine blk_drew ?_ | refine blk_alloc ?_ _)); refine blk_far ?_ NB157_154.out _; (with_reducible repeat (first | refine blk_drewN ?_ _ | refine blk_drew ?_ | refine blk_alloc ?_ _)); refine blk_far ?_ NB157_154.out _; (with_reducible repeat (first | refine blk_drewN ?_ _ | refine blk_drew ?_ | refine blk_alloc ?_ _)); refine blk_far ?_ NB157_161.out _; (with_reducible repeat (first | refine blk_drewN ?_ _ | refine blk_drew ?_ | refine blk_alloc ?_ _)); refine blk_far ?_ NB157_161.out _; (with_reducible repeat (first | refine blk_drewN ?_ _ | refine blk_drew ?_ | refine blk_alloc ?_ _)); exact BK157.out) NB157_153.out (by simp)); have n2_ := Aside0.mk (KeepBut.blk hk (g' := gb161) (o := .cells #[.string t158, .int .i64 t159] 37 (0, 0)) (by (with_reducible repeat (first | refine blk_drewN ?_ _ | refine blk_drew ?_ | refine blk_alloc ?_ _)); refine blk_far ?_ NB161_154.out _; (with_reducible repeat (first | refine blk_drewN ?_ _ | refine blk_drew ?_ | refine blk_alloc ?_ _)); refine blk_far ?_ NB161_154.out _; (with_reducible repeat (first | refine blk_drewN ?_ _ | refine blk_drew ?_ | refine blk_alloc ?_ _)); refine blk_put (cs := #[.string t158, .int .i64 0]) ?_ 1 _ rfl; (with_reducible repeat (first | refine blk_drewN ?_ _ | refine blk_drew ?_ | refine blk_alloc ?_ _)); refine blk_put (cs := #[.string (⟨#[]⟩ : ByteArray), .int .i64 0]) ?_ 0 _ rfl; (with_reducible repeat (first | refine blk_drewN ?_ _ | refine blk_drew ?_ | refine blk_alloc ?_ _)); exact BK161.out) NB161_153.out (by simp)); have n3_ := Aside0.mk (hb); have n4_ := Aside0.mk (hi); clear BK154; clear BK157; clear BK161; clear HB; clear HI153; have BK154 := n0_; have BK157 := n1_; have BK161 := n2_; have HB := n3_; have HI153 := n4_; clear n0_ n1_ n2_ n3_ n4_; (try clear hb); (try clear hb2); (try clear hk); (try clear hi)))
                        go_ret
                        exact ⟨by first | rfl | (simp [errW_none, errW_some] <;> rfl) | (simp [*, errW_none, errW_some] <;> rfl), by repeat (first | (with_reducible first | exact HB.out | apply below_alloc | apply pw_below_drewN | apply below_drew1 | refine below_set ?_ (IsS35.ge HI153.out) | refine below_set ?_ GE154.out | refine below_set ?_ GE157.out | refine below_set ?_ GE161.out) | exact HB.out)⟩
                    · rw [if_neg c20] at H
                      have c20b0 : (((rd_T39 l1 x33_2).f0) == 0) = false := beq_eq_false_iff_ne.mpr c20
                      have c20b1 : (((rd_T39 l1 x33_2).f0) != 0) = true := bne_iff_ne.mpr c20
                      (first | rw [c20b0] | (simp only [i64_w, i32_w]; rw [c20b0]) | skip)
                      by_cases c52 : ((rd_T39 l1 x33_2).f0) = 1
                      · rw [if_pos c52] at H
                        have c52b0 : (((rd_T39 l1 x33_2).f0) == 1) = true := beq_iff_eq.mpr c52
                        have c52b1 : (((rd_T39 l1 x33_2).f0) != 1) = false := bne_eq_false_iff_eq.mpr c52
                        clear c52
                        replace H := Option.bind_eq_some_iff.mp H
                        obtain ⟨⟨t165, t166, t167⟩, A530, H⟩ := H
                        replace H : ((pack_Taker_Int.f k2 x154000_2 x154001_2).bind fun bt169 => (if bt169.1 = (wrap64 (t167)) then (bosunlaw02_PackTakes.j2 k2 l1 (l1.length : Int) x33_2 bt169.2.1 bt169.2.2 t165 t166) else (some false))) = some r := H
                        have A53 := Aside0.mk A530
                        clear A530
                        replace H := Option.bind_eq_some_iff.mp H
                        obtain ⟨⟨t169, t170, t171⟩, A540, H⟩ := H
                        replace H : (if t169 = (wrap64 (t167)) then (bosunlaw02_PackTakes.j2 k2 l1 (l1.length : Int) x33_2 t170 t171 t165 t166) else (some false)) = some r := H
                        have A54 := Aside0.mk A540
                        clear A540
                        by_cases c55 : t169 = (wrap64 (t167))
                        · rw [if_pos c55] at H
                          have c55b0 : (t169 == (wrap64 (t167))) = true := beq_iff_eq.mpr c55
                          have c55b1 : (t169 != (wrap64 (t167))) = false := bne_eq_false_iff_eq.mpr c55
                          clear c55
                          have H' := Aside0.mk H
                          clear H
                          have hnb56 := NB154_157.out
                          have hnc56 := NB157_154.out
                          have hnb57 := NB154_153.out
                          have hnc57 := NB153_154.out
                          have hcz58_0 : w16.cell? ⟨gb154, 0, none⟩ = some (.string x155000_2) := (blk_cell BK154.out 0).trans rfl
                          have hcz58_1 : w16.cell? ⟨gb154, 1, none⟩ = some (.int .i64 x155001_2) := (blk_cell BK154.out 1).trans rfl
                          have hfz58_0 := blk_frozen BK154.out 0
                          have hfz58_1 := blk_frozen BK154.out 1
                          go_wp2_with (first | ((with_reducible refine gate_callee (f := 16) rfl ?_); refine goesL_ (some 59) rfl rfl Try.func16 (by kernel_rfl) rfl #[.agg #[.string x155000_2, .int .i64 x155001_2], .int .i64 8] rfl (by (try simp only [List.map_toArray, List.map_cons, List.map_nil]); first | done | rfl | (simp only [List.length_drop, List.length_take]; rfl) | (simp (disch := first | omega | (simp at *; omega)) only [u64_id, i64_id, u8_id]; rfl)) ?_; (with_reducible refine (bosunref02_Take.calls k2 x155000_2 x155001_2 8 t165 t166 t167 _ A53.out).mono ?_); rintro e w59 ⟨rfl, hb⟩; refine ⟨_, rfl, ?_⟩; have n0_ := Aside0.mk (blk_below (g := gb154) (o := .cells #[.string x155000_2, .int .i64 x155001_2] 37 (0, 0)) (by (with_reducible repeat (first | refine blk_drewN ?_ _ | refine blk_drew ?_ | refine blk_alloc ?_ _)); refine blk_far ?_ NB154_157.out _; (with_reducible repeat (first | refine blk_drewN ?_ _ | refine blk_drew ?_ | refine blk_alloc ?_ _)); refine blk_far ?_ NB154_157.out _; (with_reducible repeat (first | refine blk_drewN ?_ _ | refine blk_drew ?_ | refine blk_alloc ?_ _)); exact BK154.out) hb); have n1_ := Aside0.mk (IsS35.below (show IsS35 w ((w16.setCell ⟨gb157, 0, none⟩ (.int .u8 ((rd_T39 l1 x33_2).f0))).setCell ⟨gb157, 1, none⟩ (.int .i64 ((rd_T39 l1 x33_2).f1))) gb153 x154000_2 x154001_2 from by repeat (first | (with_reducible first | exact HI153.out | apply IsS35.alloc | apply IsS35.drewN | apply IsS35.drew | apply IsS35.set_0 | apply IsS35.set_1 | refine IsS35.far ?_ NB153_154.out _ | refine IsS35.far ?_ NB153_157.out _) | exact HI153.out)) hb); have n2_ := Aside0.mk (blk_below (g := gb157) (o := .cells #[.int .u8 ((rd_T39 l1 x33_2).f0), .int .i64 ((rd_T39 l1 x33_2).f1)] 39 (0, 0)) (by (with_reducible repeat (first | refine blk_drewN ?_ _ | refine blk_drew ?_ | refine blk_alloc ?_ _)); refine blk_put (cs := #[.int .u8 ((rd_T39 l1 x33_2).f0), .int .i64 0]) ?_ 1 _ rfl; (with_reducible repeat (first | refine blk_drewN ?_ _ | refine blk_drew ?_ | refine blk_alloc ?_ _)); refine blk_put (cs := #[.int .u8 0, .int .i64 0]) ?_ 0 _ rfl; (with_reducible repeat (first | refine blk_drewN ?_ _ | refine blk_drew ?_ | refine blk_alloc ?_ _)); exact BK157.out) hb); have n3_ := Aside0.mk (below_step (by repeat (first | (with_reducible first | exact HB.out | apply below_alloc | apply pw_below_drewN | apply below_drew1 | refine below_set ?_ (IsS35.ge HI153.out) | refine below_set ?_ GE154.out | refine below_set ?_ GE157.out) | exact HB.out)) hb); clear BK154; clear HI153; clear BK157; clear HB; have BK154 := n0_; have HI153 := n1_; have BK157 := n2_; have HB := n3_; clear n0_ n1_ n2_ n3_; (try clear hb); (try clear hb2); (try clear hk); (try clear hi)) | ((with_reducible refine gate_dst (N := 11) rfl ?_); (try (refine gate_guard (by rfl) ?_; dsimp only)); refine box_event ?hg (N := 11) ?hd (cs := #[.string (⟨#[]⟩ : ByteArray), .int .i64 0]) (t := 37) ?hr ?_; (case hd => rfl); (case hg => rfl); (case hr => first | (go_simp; done) | (go_simp; rfl)); intro gb168 hg w60 hbox hb; have n0_ := Aside0.mk (blk_below (g := gb154) (o := .cells #[.string x155000_2, .int .i64 x155001_2] 37 (0, 0)) (by (with_reducible repeat (first | refine blk_drewN ?_ _ | refine blk_drew ?_ | refine blk_alloc ?_ _)); exact BK154.out) hb); have n1_ := Aside0.mk (IsS35.below (by repeat (first | (with_reducible first | exact HI153.out | apply IsS35.alloc | apply IsS35.drewN | apply IsS35.drew | apply IsS35.set_0 | apply IsS35.set_1 | refine IsS35.far ?_ NB153_154.out _ | refine IsS35.far ?_ NB153_157.out _) | exact HI153.out)) hb); have n2_ := Aside0.mk (blk_below (g := gb157) (o := .cells #[.int .u8 ((rd_T39 l1 x33_2).f0), .int .i64 ((rd_T39 l1 x33_2).f1)] 39 (0, 0)) (by (with_reducible repeat (first | refine blk_drewN ?_ _ | refine blk_drew ?_ | refine blk_alloc ?_ _)); exact BK157.out) hb); have n3_ := Aside0.mk (below_step (by repeat (first | (with_reducible first | exact HB.out | apply below_alloc | apply pw_below_drewN | apply below_drew1 | refine below_set ?_ (IsS35.ge HI153.out) | refine below_set ?_ GE154.out | refine below_set ?_ GE157.out) | exact HB.out)) hb); have n4_ := Aside0.mk (hbox); have n5_ := Aside0.mk ((by rw [hg]; exact (below_size (by repeat (first | (with_reducible first | exact HB.out | apply below_alloc | apply pw_below_drewN | apply below_drew1 | refine below_set ?_ (IsS35.ge HI153.out) | refine below_set ?_ GE154.out | refine below_set ?_ GE157.out) | exact HB.out))) : w.heap.size ≤ gb168)); have n6_ := Aside0.mk ((by rw [hg]; exact (below_size (by repeat (first | (with_reducible first | exact HB.out | apply below_alloc | apply pw_below_drewN | apply below_drew1 | refine below_set ?_ (IsS35.ge HI153.out) | refine below_set ?_ GE154.out | refine below_set ?_ GE157.out) | exact HB.out))) : w.heap.size ≤ gb168)); have n7_ := Aside0.mk ((by rw [hg]; exact Nat.ne_of_lt (blk_lt (g := gb154) (o := .cells #[.string x155000_2, .int .i64 x155001_2] 37 (0, 0)) (by (with_reducible repeat (first | refine blk_drewN ?_ _ | refine blk_drew ?_ | refine blk_alloc ?_ _)); exact BK154.out)) : gb154 ≠ gb168)); have n8_ := Aside0.mk ((by rw [hg]; exact Nat.ne_of_gt (blk_lt (g := gb154) (o := .cells #[.string x155000_2, .int .i64 x155001_2] 37 (0, 0)) (by (with_reducible repeat (first | refine blk_drewN ?_ _ | refine blk_drew ?_ | refine blk_alloc ?_ _)); exact BK154.out)) : gb168 ≠ gb154)); have n9_ := Aside0.mk ((by rw [hg]; exact Nat.ne_of_lt (blk_lt (g := gb157) (o := .cells #[.int .u8 ((rd_T39 l1 x33_2).f0), .int .i64 ((rd_T39 l1 x33_2).f1)] 39 (0, 0)) (by (with_reducible repeat (first | refine blk_drewN ?_ _ | refine blk_drew ?_ | refine blk_alloc ?_ _)); exact BK157.out)) : gb157 ≠ gb168)); have n10_ := Aside0.mk ((by rw [hg]; exact Nat.ne_of_gt (blk_lt (g := gb157) (o := .cells #[.int .u8 ((rd_T39 l1 x33_2).f0), .int .i64 ((rd_T39 l1 x33_2).f1)] 39 (0, 0)) (by (with_reducible repeat (first | refine blk_drewN ?_ _ | refine blk_drew ?_ | refine blk_alloc ?_ _)); exact BK157.out)) : gb168 ≠ gb157)); have n11_ := Aside0.mk ((by rw [hg]; exact Nat.ne_of_lt (IsS35.lt (show IsS35 w _ gb153 x154000_2 x154001_2 from by repeat (first | (with_reducible first | exact HI153.out | apply IsS35.alloc | apply IsS35.drewN | apply IsS35.drew | apply IsS35.set_0 | apply IsS35.set_1 | refine IsS35.far ?_ NB153_154.out _ | refine IsS35.far ?_ NB153_157.out _) | exact HI153.out))) : gb153 ≠ gb168)); have n12_ := Aside0.mk ((by rw [hg]; exact Nat.ne_of_gt (IsS35.lt (show IsS35 w _ gb153 x154000_2 x154001_2 from by repeat (first | (with_reducible first | exact HI153.out | apply IsS35.alloc | apply IsS35.drewN | apply IsS35.drew | apply IsS35.set_0 | apply IsS35.set_1 | refine IsS35.far ?_ NB153_154.out _ | refine IsS35.far ?_ NB153_157.out _) | exact HI153.out))) : gb168 ≠ gb153)); clear BK154; clear HI153; clear BK157; clear HB; have BK154 := n0_; have HI153 := n1_; have BK157 := n2_; have HB := n3_; have BK168 := n4_; have GW168 := n5_; have GE168 := n6_; have NB154_168 := n7_; have NB168_154 := n8_; have NB157_168 := n9_; have NB168_157 := n10_; have NB153_168 := n11_; have NB168_153 := n12_; clear n0_ n1_ n2_ n3_ n4_ n5_ n6_ n7_ n8_ n9_ n10_ n11_ n12_; clear hb hbox hg; have hnb61 := NB168_154.out; have hnc61 := NB154_168.out; have hnb62 := NB168_157.out; have hnc62 := NB157_168.out; have hnb63 := NB168_153.out; have hnc63 := NB153_168.out; have hcz64_0 : w60.cell? ⟨gb168, 0, none⟩ = some (.string (⟨#[]⟩ : ByteArray)) := (blk_cell BK168.out 0).trans rfl; have hcz64_1 : w60.cell? ⟨gb168, 1, none⟩ = some (.int .i64 0) := (blk_cell BK168.out 1).trans rfl; have hfz64_0 := blk_frozen BK168.out 0; have hfz64_1 := blk_frozen BK168.out 1; have hcz65_0 : w60.cell? ⟨gb154, 0, none⟩ = some (.string x155000_2) := (blk_cell BK154.out 0).trans rfl; have hcz65_1 : w60.cell? ⟨gb154, 1, none⟩ = some (.int .i64 x155001_2) := (blk_cell BK154.out 1).trans rfl; have hfz65_0 := blk_frozen BK154.out 0; have hfz65_1 := blk_frozen BK154.out 1) | ((with_reducible refine gate_callee (f := 18) rfl ?_); refine goesL_ (some 64) rfl rfl Try.func18 (by kernel_rfl) rfl #[.pointer (some ⟨gb153, 0, none⟩)] rfl (by (try simp only [List.map_toArray, List.map_cons, List.map_nil]); first | done | rfl | (simp only [List.length_drop, List.length_take]; rfl) | (simp (disch := first | omega | (simp at *; omega)) only [u64_id, i64_id, u8_id]; rfl)) ?_; (with_reducible refine (pack_Taker_Int.calls k2 gb153 x154000_2 x154001_2 t169 t170 t171 w _ ?side1 ?side2 A54.out).mono ?_); (case side1 => repeat (first | (with_reducible first | exact HI153.out | apply IsS35.alloc | apply IsS35.drewN | apply IsS35.drew | apply IsS35.set_0 | apply IsS35.set_1 | refine IsS35.far ?_ NB153_154.out _ | refine IsS35.far ?_ NB153_157.out _ | refine IsS35.far ?_ NB153_168.out _) | exact HI153.out)); (case side2 => repeat (first | (with_reducible first | exact HB.out | apply below_alloc | apply pw_below_drewN | apply below_drew1 | refine below_set ?_ (IsS35.ge HI153.out) | refine below_set ?_ GE154.out | refine below_set ?_ GE157.out | refine below_set ?_ GE168.out) | exact HB.out)); rintro e w66 ⟨rfl, hi, hb, hk⟩; refine ⟨_, rfl, ?_⟩; have n0_ := Aside0.mk (KeepBut.blk hk (g' := gb154) (o := .cells #[.string t165, .int .i64 t166] 37 (0, 0)) (by (with_reducible repeat (first | refine blk_drewN ?_ _ | refine blk_drew ?_ | refine blk_alloc ?_ _)); refine blk_put (cs := #[.string t165, .int .i64 x155001_2]) ?_ 1 _ rfl; (with_reducible repeat (first | refine blk_drewN ?_ _ | refine blk_drew ?_ | refine blk_alloc ?_ _)); refine blk_put (cs := #[.string x155000_2, .int .i64 x155001_2]) ?_ 0 _ rfl; (with_reducible repeat (first | refine blk_drewN ?_ _ | refine blk_drew ?_ | refine blk_alloc ?_ _)); refine blk_far ?_ NB154_168.out _; (with_reducible repeat (first | refine blk_drewN ?_ _ | refine blk_drew ?_ | refine blk_alloc ?_ _)); refine blk_far ?_ NB154_168.out _; (with_reducible repeat (first | refine blk_drewN ?_ _ | refine blk_drew ?_ | refine blk_alloc ?_ _)); exact BK154.out) NB154_153.out (by simp)); have n1_ := Aside0.mk (KeepBut.blk hk (g' := gb157) (o := .cells #[.int .u8 ((rd_T39 l1 x33_2).f0), .int .i64 ((rd_T39 l1 x33_2).f1)] 39 (0, 0)) (by (with_reducible repeat (first | refine blk_drewN ?_ _ | refine blk_drew ?_ | refine blk_alloc ?_ _)); refine blk_far ?_ NB157_154.out _; (with_reducible repeat (first | refine blk_drewN ?_ _ | refine blk_drew ?_ | refine blk_alloc ?_ _)); refine blk_far ?_ NB157_154.out _; (with_reducible repeat (first | refine blk_drewN ?_ _ | refine blk_drew ?_ | refine blk_alloc ?_ _)); refine blk_far ?_ NB157_168.out _; (with_reducible repeat (first | refine blk_drewN ?_ _ | refine blk_drew ?_ | refine blk_alloc ?_ _)); refine blk_far ?_ NB157_168.out _; (with_reducible repeat (first | refine blk_drewN ?_ _ | refine blk_drew ?_ | refine blk_alloc ?_ _)); exact BK157.out) NB157_153.out (by simp)); have n2_ := Aside0.mk (KeepBut.blk hk (g' := gb168) (o := .cells #[.string t165, .int .i64 t166] 37 (0, 0)) (by (with_reducible repeat (first | refine blk_drewN ?_ _ | refine blk_drew ?_ | refine blk_alloc ?_ _)); refine blk_far ?_ NB168_154.out _; (with_reducible repeat (first | refine blk_drewN ?_ _ | refine blk_drew ?_ | refine blk_alloc ?_ _)); refine blk_far ?_ NB168_154.out _; (with_reducible repeat (first | refine blk_drewN ?_ _ | refine blk_drew ?_ | refine blk_alloc ?_ _)); refine blk_put (cs := #[.string t165, .int .i64 0]) ?_ 1 _ rfl; (with_reducible repeat (first | refine blk_drewN ?_ _ | refine blk_drew ?_ | refine blk_alloc ?_ _)); refine blk_put (cs := #[.string (⟨#[]⟩ : ByteArray), .int .i64 0]) ?_ 0 _ rfl; (with_reducible repeat (first | refine blk_drewN ?_ _ | refine blk_drew ?_ | refine blk_alloc ?_ _)); exact BK168.out) NB168_153.out (by simp)); have n3_ := Aside0.mk (hb); have n4_ := Aside0.mk (hi); clear BK154; clear BK157; clear BK168; clear HB; clear HI153; have BK154 := n0_; have BK157 := n1_; have BK168 := n2_; have HB := n3_; have HI153 := n4_; clear n0_ n1_ n2_ n3_ n4_; (try clear hb); (try clear hb2); (try clear hk); (try clear hi)))
                          go_meet
                          case rel => exact ⟨_, (t170), (t171), (t165), (t166), H', ⟨by have := HJ2.out; have := HK2.out; first | omega | exact Nat.le_refl _⟩, ⟨by (with_reducible repeat (first | refine blk_drewN ?_ _ | refine blk_drew ?_ | refine blk_alloc ?_ _)); exact BK154.out⟩, ⟨by (with_reducible repeat (first | refine blk_drewN ?_ _ | refine blk_drew ?_ | refine blk_alloc ?_ _)); exact BK157.out⟩, ⟨by repeat (first | (with_reducible first | exact HI153.out | apply IsS35.alloc | apply IsS35.drewN | apply IsS35.drew | apply IsS35.set_0 | apply IsS35.set_1 | refine IsS35.far ?_ NB153_154.out _ | refine IsS35.far ?_ NB153_157.out _ | refine IsS35.far ?_ NB153_168.out _) | exact HI153.out)⟩, ⟨by repeat (first | (with_reducible first | exact HB.out | apply below_alloc | apply pw_below_drewN | apply below_drew1 | refine below_set ?_ (IsS35.ge HI153.out) | refine below_set ?_ GE154.out | refine below_set ?_ GE157.out | refine below_set ?_ GE168.out) | exact HB.out)⟩⟩
                        · rw [if_neg c55] at H
                          have c55b0 : (t169 == (wrap64 (t167))) = false := beq_eq_false_iff_ne.mpr c55
                          have c55b1 : (t169 != (wrap64 (t167))) = true := bne_iff_ne.mpr c55
                          obtain rfl := Option.some.inj H
                          have hnb67 := NB154_157.out
                          have hnc67 := NB157_154.out
                          have hnb68 := NB154_153.out
                          have hnc68 := NB153_154.out
                          have hcz69_0 : w16.cell? ⟨gb154, 0, none⟩ = some (.string x155000_2) := (blk_cell BK154.out 0).trans rfl
                          have hcz69_1 : w16.cell? ⟨gb154, 1, none⟩ = some (.int .i64 x155001_2) := (blk_cell BK154.out 1).trans rfl
                          have hfz69_0 := blk_frozen BK154.out 0
                          have hfz69_1 := blk_frozen BK154.out 1
                          go_wp2_with (first | ((with_reducible refine gate_callee (f := 16) rfl ?_); refine goesL_ (some 59) rfl rfl Try.func16 (by kernel_rfl) rfl #[.agg #[.string x155000_2, .int .i64 x155001_2], .int .i64 8] rfl (by (try simp only [List.map_toArray, List.map_cons, List.map_nil]); first | done | rfl | (simp only [List.length_drop, List.length_take]; rfl) | (simp (disch := first | omega | (simp at *; omega)) only [u64_id, i64_id, u8_id]; rfl)) ?_; (with_reducible refine (bosunref02_Take.calls k2 x155000_2 x155001_2 8 t165 t166 t167 _ A53.out).mono ?_); rintro e w70 ⟨rfl, hb⟩; refine ⟨_, rfl, ?_⟩; have n0_ := Aside0.mk (blk_below (g := gb154) (o := .cells #[.string x155000_2, .int .i64 x155001_2] 37 (0, 0)) (by (with_reducible repeat (first | refine blk_drewN ?_ _ | refine blk_drew ?_ | refine blk_alloc ?_ _)); refine blk_far ?_ NB154_157.out _; (with_reducible repeat (first | refine blk_drewN ?_ _ | refine blk_drew ?_ | refine blk_alloc ?_ _)); refine blk_far ?_ NB154_157.out _; (with_reducible repeat (first | refine blk_drewN ?_ _ | refine blk_drew ?_ | refine blk_alloc ?_ _)); exact BK154.out) hb); have n1_ := Aside0.mk (IsS35.below (show IsS35 w ((w16.setCell ⟨gb157, 0, none⟩ (.int .u8 ((rd_T39 l1 x33_2).f0))).setCell ⟨gb157, 1, none⟩ (.int .i64 ((rd_T39 l1 x33_2).f1))) gb153 x154000_2 x154001_2 from by repeat (first | (with_reducible first | exact HI153.out | apply IsS35.alloc | apply IsS35.drewN | apply IsS35.drew | apply IsS35.set_0 | apply IsS35.set_1 | refine IsS35.far ?_ NB153_154.out _ | refine IsS35.far ?_ NB153_157.out _) | exact HI153.out)) hb); have n2_ := Aside0.mk (blk_below (g := gb157) (o := .cells #[.int .u8 ((rd_T39 l1 x33_2).f0), .int .i64 ((rd_T39 l1 x33_2).f1)] 39 (0, 0)) (by (with_reducible repeat (first | refine blk_drewN ?_ _ | refine blk_drew ?_ | refine blk_alloc ?_ _)); refine blk_put (cs := #[.int .u8 ((rd_T39 l1 x33_2).f0), .int .i64 0]) ?_ 1 _ rfl; (with_reducible repeat (first | refine blk_drewN ?_ _ | refine blk_drew ?_ | refine blk_alloc ?_ _)); refine blk_put (cs := #[.int .u8 0, .int .i64 0]) ?_ 0 _ rfl; (with_reducible repeat (first | refine blk_drewN ?_ _ | refine blk_drew ?_ | refine blk_alloc ?_ _)); exact BK157.out) hb); have n3_ := Aside0.mk (below_step (by repeat (first | (with_reducible first | exact HB.out | apply below_alloc | apply pw_below_drewN | apply below_drew1 | refine below_set ?_ (IsS35.ge HI153.out) | refine below_set ?_ GE154.out | refine below_set ?_ GE157.out) | exact HB.out)) hb); clear BK154; clear HI153; clear BK157; clear HB; have BK154 := n0_; have HI153 := n1_; have BK157 := n2_; have HB := n3_; clear n0_ n1_ n2_ n3_; (try clear hb); (try clear hb2); (try clear hk); (try clear hi)) | ((with_reducible refine gate_dst (N := 11) rfl ?_); (try (refine gate_guard (by rfl) ?_; dsimp only)); refine box_event ?hg (N := 11) ?hd (cs := #[.string (⟨#[]⟩ : ByteArray), .int .i64 0]) (t := 37) ?hr ?_; (case hd => rfl); (case hg => rfl); (case hr => first | (go_simp; done) | (go_simp; rfl)); intro gb168 hg w71 hbox hb; have n0_ := Aside0.mk (blk_below (g := gb154) (o := .cells #[.string x155000_2, .int .i64 x155001_2] 37 (0, 0)) (by (with_reducible repeat (first | refine blk_drewN ?_ _ | refine blk_drew ?_ | refine blk_alloc ?_ _)); exact BK154.out) hb); have n1_ := Aside0.mk (IsS35.below (by repeat (first | (with_reducible first | exact HI153.out | apply IsS35.alloc | apply IsS35.drewN | apply IsS35.drew | apply IsS35.set_0 | apply IsS35.set_1 | refine IsS35.far ?_ NB153_154.out _ | refine IsS35.far ?_ NB153_157.out _) | exact HI153.out)) hb); have n2_ := Aside0.mk (blk_below (g := gb157) (o := .cells #[.int .u8 ((rd_T39 l1 x33_2).f0), .int .i64 ((rd_T39 l1 x33_2).f1)] 39 (0, 0)) (by (with_reducible repeat (first | refine blk_drewN ?_ _ | refine blk_drew ?_ | refine blk_alloc ?_ _)); exact BK157.out) hb); have n3_ := Aside0.mk (below_step (by repeat (first | (with_reducible first | exact HB.out | apply below_alloc | apply pw_below_drewN | apply below_drew1 | refine below_set ?_ (IsS35.ge HI153.out) | refine below_set ?_ GE154.out | refine below_set ?_ GE157.out) | exact HB.out)) hb); have n4_ := Aside0.mk (hbox); have n5_ := Aside0.mk ((by rw [hg]; exact (below_size (by repeat (first | (with_reducible first | exact HB.out | apply below_alloc | apply pw_below_drewN | apply below_drew1 | refine below_set ?_ (IsS35.ge HI153.out) | refine below_set ?_ GE154.out | refine below_set ?_ GE157.out) | exact HB.out))) : w.heap.size ≤ gb168)); have n6_ := Aside0.mk ((by rw [hg]; exact (below_size (by repeat (first | (with_reducible first | exact HB.out | apply below_alloc | apply pw_below_drewN | apply below_drew1 | refine below_set ?_ (IsS35.ge HI153.out) | refine below_set ?_ GE154.out | refine below_set ?_ GE157.out) | exact HB.out))) : w.heap.size ≤ gb168)); have n7_ := Aside0.mk ((by rw [hg]; exact Nat.ne_of_lt (blk_lt (g := gb154) (o := .cells #[.string x155000_2, .int .i64 x155001_2] 37 (0, 0)) (by (with_reducible repeat (first | refine blk_drewN ?_ _ | refine blk_drew ?_ | refine blk_alloc ?_ _)); exact BK154.out)) : gb154 ≠ gb168)); have n8_ := Aside0.mk ((by rw [hg]; exact Nat.ne_of_gt (blk_lt (g := gb154) (o := .cells #[.string x155000_2, .int .i64 x155001_2] 37 (0, 0)) (by (with_reducible repeat (first | refine blk_drewN ?_ _ | refine blk_drew ?_ | refine blk_alloc ?_ _)); exact BK154.out)) : gb168 ≠ gb154)); have n9_ := Aside0.mk ((by rw [hg]; exact Nat.ne_of_lt (blk_lt (g := gb157) (o := .cells #[.int .u8 ((rd_T39 l1 x33_2).f0), .int .i64 ((rd_T39 l1 x33_2).f1)] 39 (0, 0)) (by (with_reducible repeat (first | refine blk_drewN ?_ _ | refine blk_drew ?_ | refine blk_alloc ?_ _)); exact BK157.out)) : gb157 ≠ gb168)); have n10_ := Aside0.mk ((by rw [hg]; exact Nat.ne_of_gt (blk_lt (g := gb157) (o := .cells #[.int .u8 ((rd_T39 l1 x33_2).f0), .int .i64 ((rd_T39 l1 x33_2).f1)] 39 (0, 0)) (by (with_reducible repeat (first | refine blk_drewN ?_ _ | refine blk_drew ?_ | refine blk_alloc ?_ _)); exact BK157.out)) : gb168 ≠ gb157)); have n11_ := Aside0.mk ((by rw [hg]; exact Nat.ne_of_lt (IsS35.lt (show IsS35 w _ gb153 x154000_2 x154001_2 from by repeat (first | (with_reducible first | exact HI153.out | apply IsS35.alloc | apply IsS35.drewN | apply IsS35.drew | apply IsS35.set_0 | apply IsS35.set_1 | refine IsS35.far ?_ NB153_154.out _ | refine IsS35.far ?_ NB153_157.out _) | exact HI153.out))) : gb153 ≠ gb168)); have n12_ := Aside0.mk ((by rw [hg]; exact Nat.ne_of_gt (IsS35.lt (show IsS35 w _ gb153 x154000_2 x154001_2 from by repeat (first | (with_reducible first | exact HI153.out | apply IsS35.alloc | apply IsS35.drewN | apply IsS35.drew | apply IsS35.set_0 | apply IsS35.set_1 | refine IsS35.far ?_ NB153_154.out _ | refine IsS35.far ?_ NB153_157.out _) | exact HI153.out))) : gb168 ≠ gb153)); clear BK154; clear HI153; clear BK157; clear HB; have BK154 := n0_; have HI153 := n1_; have BK157 := n2_; have HB := n3_; have BK168 := n4_; have GW168 := n5_; have GE168 := n6_; have NB154_168 := n7_; have NB168_154 := n8_; have NB157_168 := n9_; have NB168_157 := n10_; have NB153_168 := n11_; have NB168_153 := n12_; clear n0_ n1_ n2_ n3_ n4_ n5_ n6_ n7_ n8_ n9_ n10_ n11_ n12_; clear hb hbox hg; have hnb72 := NB168_154.out; have hnc72 := NB154_168.out; have hnb73 := NB168_157.out; have hnc73 := NB157_168.out; have hnb74 := NB168_153.out; have hnc74 := NB153_168.out; have hcz75_0 : w71.cell? ⟨gb168, 0, none⟩ = some (.string (⟨#[]⟩ : ByteArray)) := (blk_cell BK168.out 0).trans rfl; have hcz75_1 : w71.cell? ⟨gb168, 1, none⟩ = some (.int .i64 0) := (blk_cell BK168.out 1).trans rfl; have hfz75_0 := blk_frozen BK168.out 0; have hfz75_1 := blk_frozen BK168.out 1; have hcz76_0 : w71.cell? ⟨gb154, 0, none⟩ = some (.string x155000_2) := (blk_cell BK154.out 0).trans rfl; have hcz76_1 : w71.cell? ⟨gb154, 1, none⟩ = some (.int .i64 x155001_2) := (blk_cell BK154.out 1).trans rfl; have hfz76_0 := blk_frozen BK154.out 0; have hfz76_1 := blk_frozen BK154.out 1) | ((with_reducible refine gate_callee (f := 18) rfl ?_); refine goesL_ (some 64) rfl rfl Try.func18 (by kernel_rfl) rfl #[.pointer (some ⟨gb153, 0, none⟩)] rfl (by (try simp only [List.map_toArray, List.map_cons, List.map_nil]); first | done | rfl | (simp only [List.length_drop, List.length_take]; rfl) | (simp (disch := first | omega | (simp at *; omega)) only [u64_id, i64_id, u8_id]; rfl)) ?_; (with_reducible refine (pack_Taker_Int.calls k2 gb153 x154000_2 x154001_2 t169 t170 t171 w _ ?side1 ?side2 A54.out).mono ?_); (case side1 => repeat (first | (with_reducible first | exact HI153.out | apply IsS35.alloc | apply IsS35.drewN | apply IsS35.drew | apply IsS35.set_0 | apply IsS35.set_1 | refine IsS35.far ?_ NB153_154.out _ | refine IsS35.far ?_ NB153_157.out _ | refine IsS35.far ?_ NB153_168.out _) | exact HI153.out)); (case side2 => repeat (first | (with_reducible first | exact HB.out | apply below_alloc | apply pw_below_drewN | apply below_drew1 | refine below_set ?_ (IsS35.ge HI153.out) | refine below_set ?_ GE154.out | refine below_set ?_ GE157.out | refine below_set ?_ GE168.out) | exact HB.out)); rintro e w77 ⟨rfl, hi, hb, hk⟩; refine ⟨_, rfl, ?_⟩; have n0_ := Aside0.mk (KeepBut.blk hk (g' := gb154) (o := .cells #[.string t165, .int .i64 t166] 37 (0, 0)) (by (with_reducible repeat (first | refine blk_drewN ?_ _ | refine blk_drew ?_ | refine blk_alloc ?_ _)); refine blk_put (cs := #[.string t165, .int .i64 x155001_2]) ?_ 1 _ rfl; (with_reducible repeat (first | refine blk_drewN ?_ _ | refine blk_drew ?_ | refine blk_alloc ?_ _)); refine blk_put (cs := #[.string x155000_2, .int .i64 x155001_2]) ?_ 0 _ rfl; (with_reducible repeat (first | refine blk_drewN ?_ _ | refine blk_drew ?_ | refine blk_alloc ?_ _)); refine blk_far ?_ NB154_168.out _; (with_reducible repeat (first | refine blk_drewN ?_ _ | refine blk_drew ?_ | refine blk_alloc ?_ _)); refine blk_far ?_ NB154_168.out _; (with_reducible repeat (first | refine blk_drewN ?_ _ | refine blk_drew ?_ | refine blk_alloc ?_ _)); exact BK154.out) NB154_153.out (by simp)); have n1_ := Aside0.mk (KeepBut.blk hk (g' := gb157) (o := .cells #[.int .u8 ((rd_T39 l1 x33_2).f0), .int .i64 ((rd_T39 l1 x33_2).f1)] 39 (0, 0)) (by (with_reducible repeat (first | refine blk_drewN ?_ _ | refine blk_drew ?_ | refine blk_alloc ?_ _)); refine blk_far ?_ NB157_154.out _; (with_reducible repeat (first | refine blk_drewN ?_ _ | refine blk_drew ?_ | refine blk_alloc ?_ _)); refine blk_far ?_ NB157_154.out _; (with_reducible repeat (first | refine blk_drewN ?_ _ | refine blk_drew ?_ | refine blk_alloc ?_ _)); refine blk_far ?_ NB157_168.out _; (with_reducible repeat (first | refine blk_drewN ?_ _ | refine blk_drew ?_ | refine blk_alloc ?_ _)); refine blk_far ?_ NB157_168.out _; (with_reducible repeat (first | refine blk_drewN ?_ _ | refine blk_drew ?_ | refine blk_alloc ?_ _)); exact BK157.out) NB157_153.out (by simp)); have n2_ := Aside0.mk (KeepBut.blk hk (g' := gb168) (o := .cells #[.string t165, .int .i64 t166] 37 (0, 0)) (by (with_reducible repeat (first | refine blk_drewN ?_ _ | refine blk_drew ?_ | refine blk_alloc ?_ _)); refine blk_far ?_ NB168_154.out _; (with_reducible repeat (first | refine blk_drewN ?_ _ | refine blk_drew ?_ | refine blk_alloc ?_ _)); refine blk_far ?_ NB168_154.out _; (with_reducible repeat (first | refine blk_drewN ?_ _ | refine blk_drew ?_ | refine blk_alloc ?_ _)); refine blk_put (cs := #[.string t165, .int .i64 0]) ?_ 1 _ rfl; (with_reducible repeat (first | refine blk_drewN ?_ _ | refine blk_drew ?_ | refine blk_alloc ?_ _)); refine blk_put (cs := #[.string (⟨#[]⟩ : ByteArray), .int .i64 0]) ?_ 0 _ rfl; (with_reducible repeat (first | refine blk_drewN ?_ _ | refine blk_drew ?_ | refine blk_alloc ?_ _)); exact BK168.out) NB168_153.out (by simp)); have n3_ := Aside0.mk (hb); have n4_ := Aside0.mk (hi); clear BK154; clear BK157; clear BK168; clear HB; clear HI153; have BK154 := n0_; have BK157 := n1_; have BK168 := n2_; have HB := n3_; have HI153 := n4_; clear n0_ n1_ n2_ n3_ n4_; (try clear hb); (try clear hb2); (try clear hk); (try clear hi)))
                          go_ret
                          exact ⟨by first | rfl | (simp [errW_none, errW_some] <;> rfl) | (simp [*, errW_none, errW_some] <;> rfl), by repeat (first | (with_reducible first | exact HB.out | apply below_alloc | apply pw_below_drewN | apply below_drew1 | refine below_set ?_ (IsS35.ge HI153.out) | refine below_set ?_ GE154.out | refine below_set ?_ GE157.out | refine below_set ?_ GE168.out) | exact HB.out)⟩
                      · rw [if_neg c52] at H
                        have c52b0 : (((rd_T39 l1 x33_2).f0) == 1) = false := beq_eq_false_iff_ne.mpr c52
                        have c52b1 : (((rd_T39 l1 x33_2).f0) != 1) = true := bne_iff_ne.mpr c52
                        by_cases c78 : ((rd_T39 l1 x33_2).f0) = 2
                        · rw [if_pos c78] at H
                          have c78b0 : (((rd_T39 l1 x33_2).f0) == 2) = true := beq_iff_eq.mpr c78
                          have c78b1 : (((rd_T39 l1 x33_2).f0) != 2) = false := bne_eq_false_iff_eq.mpr c78
                          clear c78
                          replace H := Option.bind_eq_some_iff.mp H
                          obtain ⟨⟨t172, t173, t174⟩, A790, H⟩ := H
                          replace H : ((pack_Taker_Flag.f k2 x154000_2 x154001_2).bind fun bt176 => (if (bt176.1 != t174) = true then (some false) else (bosunlaw02_PackTakes.j2 k2 l1 (l1.length : Int) x33_2 bt176.2.1 bt176.2.2 t172 t173))) = some r := H
                          have A79 := Aside0.mk A790
                          clear A790
                          replace H := Option.bind_eq_some_iff.mp H
                          obtain ⟨⟨t176, t177, t178⟩, A800, H⟩ := H
                          replace H : (if (t176 != t174) = true then (some false) else (bosunlaw02_PackTakes.j2 k2 l1 (l1.length : Int) x33_2 t177 t178 t172 t173)) = some r := H
                          have A80 := Aside0.mk A800
                          clear A800
                          by_cases c81 : (t176 != t174) = true
                          · rw [if_pos c81] at H
                            have c81b0 : (t176 != t174) = true := c81
                            (try (have c81b1 : decide (t176 = t174) = false := by simpa using c81))
                            (try (have c81b2 : (t176 == t174) = false := by simpa using c81))
                            (try (have c81b3 : ¬ (t176 = t174) := by simpa using c81))
                            clear c81
                            obtain rfl := Option.some.inj H
                            have hnb82 := NB154_157.out
                            have hnc82 := NB157_154.out
                            have hnb83 := NB154_153.out
                            have hnc83 := NB153_154.out
                            have hcz84_0 : w16.cell? ⟨gb154, 0, none⟩ = some (.string x155000_2) := (blk_cell BK154.out 0).trans rfl
                            have hcz84_1 : w16.cell? ⟨gb154, 1, none⟩ = some (.int .i64 x155001_2) := (blk_cell BK154.out 1).trans rfl
                            have hfz84_0 := blk_frozen BK154.out 0
                            have hfz84_1 := blk_frozen BK154.out 1
                            go_wp2_with (first | ((with_reducible refine gate_callee (f := 19) rfl ?_); refine goesL_ (some 72) rfl rfl Try.func19 (by kernel_rfl) rfl #[.agg #[.string x155000_2, .int .i64 x155001_2]] rfl (by (try simp only [List.map_toArray, List.map_cons, List.map_nil]); first | done | rfl | (simp only [List.length_drop, List.length_take]; rfl) | (simp (disch := first | omega | (simp at *; omega)) only [u64_id, i64_id, u8_id]; rfl)) ?_; (with_reducible refine (bosunref02_TakeFlag.calls k2 x155000_2 x155001_2 t172 t173 t174 _ A79.out).mono ?_); rintro e w85 ⟨rfl, hb⟩; refine ⟨_, rfl, ?_⟩; have n0_ := Aside0.mk (blk_below (g := gb154) (o := .cells #[.string x155000_2, .int .i64 x155001_2] 37 (0, 0)) (by (with_reducible repeat (first | refine blk_drewN ?_ _ | refine blk_drew ?_ | refine blk_alloc ?_ _)); refine blk_far ?_ NB154_157.out _; (with_reducible repeat (first | refine blk_drewN ?_ _ | refine blk_drew ?_ | refine blk_alloc ?_ _)); refine blk_far ?_ NB154_157.out _; (with_reducible repeat (first | refine blk_drewN ?_ _ | refine blk_drew ?_ | refine blk_alloc ?_ _)); exact BK154.out) hb); have n1_ := Aside0.mk (IsS35.below (show IsS35 w ((w16.setCell ⟨gb157, 0, none⟩ (.int .u8 ((rd_T39 l1 x33_2).f0))).setCell ⟨gb157, 1, none⟩ (.int .i64 ((rd_T39 l1 x33_2).f1))) gb153 x154000_2 x154001_2 from by repeat (first | (with_reducible first | exact HI153.out | apply IsS35.alloc | apply IsS35.drewN | apply IsS35.drew | apply IsS35.set_0 | apply IsS35.set_1 | refine IsS35.far ?_ NB153_154.out _ | refine IsS35.far ?_ NB153_157.out _) | exact HI153.out)) hb); have n2_ := Aside0.mk (blk_below (g := gb157) (o := .cells #[.int .u8 ((rd_T39 l1 x33_2).f0), .int .i64 ((rd_T39 l1 x33_2).f1)] 39 (0, 0)) (by (with_reducible repeat (first | refine blk_drewN ?_ _ | refine blk_drew ?_ | refine blk_alloc ?_ _)); refine blk_put (cs := #[.int .u8 ((rd_T39 l1 x33_2).f0), .int .i64 0]) ?_ 1 _ rfl; (with_reducible repeat (first | refine blk_drewN ?_ _ | refine blk_drew ?_ | refine blk_alloc ?_ _)); refine blk_put (cs := #[.int .u8 0, .int .i64 0]) ?_ 0 _ rfl; (with_reducible repeat (first | refine blk_drewN ?_ _ | refine blk_drew ?_ | refine blk_alloc ?_ _)); exact BK157.out) hb); have n3_ := Aside0.mk (below_step (by repeat (first | (with_reducible first | exact HB.out | apply below_alloc | apply pw_below_drewN | apply below_drew1 | refine below_set ?_ (IsS35.ge HI153.out) | refine below_set ?_ GE154.out | refine below_set ?_ GE157.out) | exact HB.out)) hb); clear BK154; clear HI153; clear BK157; clear HB; have BK154 := n0_; have HI153 := n1_; have BK157 := n2_; have HB := n3_; clear n0_ n1_ n2_ n3_; (try clear hb); (try clear hb2); (try clear hk); (try clear hi)) | ((with_reducible refine gate_dst (N := 13) rfl ?_); (try (refine gate_guard (by rfl) ?_; dsimp only)); refine box_event ?hg (N := 13) ?hd (cs := #[.string (⟨#[]⟩ : ByteArray), .int .i64 0]) (t := 37) ?hr ?_; (case hd => rfl); (case hg => rfl); (case hr => first | (go_simp; done) | (go_simp; rfl)); intro gb175 hg w86 hbox hb; have n0_ := Aside0.mk (blk_below (g := gb154) (o := .cells #[.string x155000_2, .int .i64 x155001_2] 37 (0, 0)) (by (with_reducible repeat (first | refine blk_drewN ?_ _ | refine blk_drew ?_ | refine blk_alloc ?_ _)); exact BK154.out) hb); have n1_ := Aside0.mk (IsS35.below (by repeat (first | (with_reducible first | exact HI153.out | apply IsS35.alloc | apply IsS35.drewN | apply IsS35.drew | apply IsS35.set_0 | apply IsS35.set_1 | refine IsS35.far ?_ NB153_154.out _ | refine IsS35.far ?_ NB153_157.out _) | exact HI153.out)) hb); have n2_ := Aside0.mk (blk_below (g := gb157) (o := .cells #[.int .u8 ((rd_T39 l1 x33_2).f0), .int .i64 ((rd_T39 l1 x33_2).f1)] 39 (0, 0)) (by (with_reducible repeat (first | refine blk_drewN ?_ _ | refine blk_drew ?_ | refine blk_alloc ?_ _)); exact BK157.out) hb); have n3_ := Aside0.mk (below_step (by repeat (first | (with_reducible first | exact HB.out | apply below_alloc | apply pw_below_drewN | apply below_drew1 | refine below_set ?_ (IsS35.ge HI153.out) | refine below_set ?_ GE154.out | refine below_set ?_ GE157.out) | exact HB.out)) hb); have n4_ := Aside0.mk (hbox); have n5_ := Aside0.mk ((by rw [hg]; exact (below_size (by repeat (first | (with_reducible first | exact HB.out | apply below_alloc | apply pw_below_drewN | apply below_drew1 | refine below_set ?_ (IsS35.ge HI153.out) | refine below_set ?_ GE154.out | refine below_set ?_ GE157.out) | exact HB.out))) : w.heap.size ≤ gb175)); have n6_ := Aside0.mk ((by rw [hg]; exact (below_size (by repeat (first | (with_reducible first | exact HB.out | apply below_alloc | apply pw_below_drewN | apply below_drew1 | refine below_set ?_ (IsS35.ge HI153.out) | refine below_set ?_ GE154.out | refine below_set ?_ GE157.out) | exact HB.out))) : w.heap.size ≤ gb175)); have n7_ := Aside0.mk ((by rw [hg]; exact Nat.ne_of_lt (blk_lt (g := gb154) (o := .cells #[.string x155000_2, .int .i64 x155001_2] 37 (0, 0)) (by (with_reducible repeat (first | refine blk_drewN ?_ _ | refine blk_drew ?_ | refine blk_alloc ?_ _)); exact BK154.out)) : gb154 ≠ gb175)); have n8_ := Aside0.mk ((by rw [hg]; exact Nat.ne_of_gt (blk_lt (g := gb154) (o := .cells #[.string x155000_2, .int .i64 x155001_2] 37 (0, 0)) (by (with_reducible repeat (first | refine blk_drewN ?_ _ | refine blk_drew ?_ | refine blk_alloc ?_ _)); exact BK154.out)) : gb175 ≠ gb154)); have n9_ := Aside0.mk ((by rw [hg]; exact Nat.ne_of_lt (blk_lt (g := gb157) (o := .cells #[.int .u8 ((rd_T39 l1 x33_2).f0), .int .i64 ((rd_T39 l1 x33_2).f1)] 39 (0, 0)) (by (with_reducible repeat (first | refine blk_drewN ?_ _ | refine blk_drew ?_ | refine blk_alloc ?_ _)); exact BK157.out)) : gb157 ≠ gb175)); have n10_ := Aside0.mk ((by rw [hg]; exact Nat.ne_of_gt (blk_lt (g := gb157) (o := .cells #[.int .u8 ((rd_T39 l1 x33_2).f0), .int .i64 ((rd_T39 l1 x33_2).f1)] 39 (0, 0)) (by (with_reducible repeat (first | refine blk_drewN ?_ _ | refine blk_drew ?_ | refine blk_alloc ?_ _)); exact BK157.out)) : gb175 ≠ gb157)); have n11_ := Aside0.mk ((by rw [hg]; exact Nat.ne_of_lt (IsS35.lt (show IsS35 w _ gb153 x154000_2 x154001_2 from by repeat (first | (with_reducible first | exact HI153.out | apply IsS35.alloc | apply IsS35.drewN | apply IsS35.drew | apply IsS35.set_0 | apply IsS35.set_1 | refine IsS35.far ?_ NB153_154.out _ | refine IsS35.far ?_ NB153_157.out _) | exact HI153.out))) : gb153 ≠ gb175)); have n12_ := Aside0.mk ((by rw [hg]; exact Nat.ne_of_gt (IsS35.lt (show IsS35 w _ gb153 x154000_2 x154001_2 from by repeat (first | (with_reducible first | exact HI153.out | apply IsS35.alloc | apply IsS35.drewN | apply IsS35.drew | apply IsS35.set_0 | apply IsS35.set_1 | refine IsS35.far ?_ NB153_154.out _ | refine IsS35.far ?_ NB153_157.out _) | exact HI153.out))) : gb175 ≠ gb153)); clear BK154; clear HI153; clear BK157; clear HB; have BK154 := n0_; have HI153 := n1_; have BK157 := n2_; have HB := n3_; have BK175 := n4_; have GW175 := n5_; have GE175 := n6_; have NB154_175 := n7_; have NB175_154 := n8_; have NB157_175 := n9_; have NB175_157 := n10_; have NB153_175 := n11_; have NB175_153 := n12_; clear n0_ n1_ n2_ n3_ n4_ n5_ n6_ n7_ n8_ n9_ n10_ n11_ n12_; clear hb hbox hg; have hnb87 := NB175_154.out; have hnc87 := NB154_175.out; have hnb88 := NB175_157.out; have hnc88 := NB157_175.out; have hnb89 := NB175_153.out; have hnc89 := NB153_175.out; have hcz90_0 : w86.cell? ⟨gb175, 0, none⟩ = some (.string (⟨#[]⟩ : ByteArray)) := (blk_cell BK175.out 0).trans rfl; have hcz90_1 : w86.cell? ⟨gb175, 1, none⟩ = some (.int .i64 0) := (blk_cell BK175.out 1).trans rfl; have hfz90_0 := blk_frozen BK175.out 0; have hfz90_1 := blk_frozen BK175.out 1; have hcz91_0 : w86.cell? ⟨gb154, 0, none⟩ = some (.string x155000_2) := (blk_cell BK154.out 0).trans rfl; have hcz91_1 : w86.cell? ⟨gb154, 1, none⟩ = some (.int .i64 x155001_2) := (blk_cell BK154.out 1).trans rfl; have hfz91_0 := blk_frozen BK154.out 0; have hfz91_1 := blk_frozen BK154.out 1) | ((with_reducible refine gate_callee (f := 20) rfl ?_); refine goesL_ (some 77) rfl rfl Try.func20 (by kernel_rfl) rfl #[.pointer (some ⟨gb153, 0, none⟩)] rfl (by (try simp only [List.map_toArray, List.map_cons, List.map_nil]); first | done | rfl | (simp only [List.length_drop, List.length_take]; rfl) | (simp (disch := first | omega | (simp at *; omega)) only [u64_id, i64_id, u8_id]; rfl)) ?_; (with_reducible refine (pack_Taker_Flag.calls k2 gb153 x154000_2 x154001_2 t176 t177 t178 w _ ?side1 ?side2 A80.out).mono ?_); (case side1 => repeat (first | (with_reducible first | exact HI153.out | apply IsS35.alloc | apply IsS35.drewN | apply IsS35.drew | apply IsS35.set_0 | apply IsS35.set_1 | refine IsS35.far ?_ NB153_154.out _ | refine IsS35.far ?_ NB153_157.out _ | refine IsS35.far ?_ NB153_175.out _) | exact HI153.out)); (case side2 => repeat (first | (with_reducible first | exact HB.out | apply below_alloc | apply pw_below_drewN | apply below_drew1 | refine below_set ?_ (IsS35.ge HI153.out) | refine below_set ?_ GE154.out | refine below_set ?_ GE157.out | refine below_set ?_ GE175.out) | exact HB.out)); rintro e w92 ⟨rfl, hi, hb, hk⟩; refine ⟨_, rfl, ?_⟩; have n0_ := Aside0.mk (KeepBut.blk hk (g' := gb154) (o := .cells #[.string t172, .int .i64 t173] 37 (0, 0)) (by (with_reducible repeat (first | refine blk_drewN ?_ _ | refine blk_drew ?_ | refine blk_alloc ?_ _)); refine blk_put (cs := #[.string t172, .int .i64 x155001_2]) ?_ 1 _ rfl; (with_reducible repeat (first | refine blk_drewN ?_ _ | refine blk_drew ?_ | refine blk_alloc ?_ _)); refine blk_put (cs := #[.string x155000_2, .int .i64 x155001_2]) ?_ 0 _ rfl; (with_reducible repeat (first | refine blk_drewN ?_ _ | refine blk_drew ?_ | refine blk_alloc ?_ _)); refine blk_far ?_ NB154_175.out _; (with_reducible repeat (first | refine blk_drewN ?_ _ | refine blk_drew ?_ | refine blk_alloc ?_ _)); refine blk_far ?_ NB154_175.out _; (with_reducible repeat (first | refine blk_drewN ?_ _ | refine blk_drew ?_ | refine blk_alloc ?_ _)); exact BK154.out) NB154_153.out (by simp)); have n1_ := Aside0.mk (KeepBut.blk hk (g' := gb157) (o := .cells #[.int .u8 ((rd_T39 l1 x33_2).f0), .int .i64 ((rd_T39 l1 x33_2).f1)] 39 (0, 0)) (by (with_reducible repeat (first | refine blk_drewN ?_ _ | refine blk_drew ?_ | refine blk_alloc ?_ _)); refine blk_far ?_ NB157_154.out _; (with_reducible repeat (first | refine blk_drewN ?_ _ | refine blk_drew ?_ | refine blk_alloc ?_ _)); refine blk_far ?_ NB157_154.out _; (with_reducible repeat (first | refine blk_drewN ?_ _ | refine blk_drew ?_ | refine blk_alloc ?_ _)); refine blk_far ?_ NB157_175.out _; (with_reducible repeat (first | refine blk_drewN ?_ _ | refine blk_drew ?_ | refine blk_alloc ?_ _)); refine blk_far ?_ NB157_175.out _; (with_reducible repeat (first | refine blk_drewN ?_ _ | refine blk_drew ?_ | refine blk_alloc ?_ _)); exact BK157.out) NB157_153.out (by simp)); have n2_ := Aside0.mk (KeepBut.blk hk (g' := gb175) (o := .cells #[.string t172, .int .i64 t173] 37 (0, 0)) (by (with_reducible repeat (first | refine blk_drewN ?_ _ | refine blk_drew ?_ | refine blk_alloc ?_ _)); refine blk_far ?_ NB175_154.out _; (with_reducible repeat (first | refine blk_drewN ?_ _ | refine blk_drew ?_ | refine blk_alloc ?_ _)); refine blk_far ?_ NB175_154.out _; (with_reducible repeat (first | refine blk_drewN ?_ _ | refine blk_drew ?_ | refine blk_alloc ?_ _)); refine blk_put (cs := #[.string t172, .int .i64 0]) ?_ 1 _ rfl; (with_reducible repeat (first | refine blk_drewN ?_ _ | refine blk_drew ?_ | refine blk_alloc ?_ _)); refine blk_put (cs := #[.string (⟨#[]⟩ : ByteArray), .int .i64 0]) ?_ 0 _ rfl; (with_reducible repeat (first | refine blk_drewN ?_ _ | refine blk_drew ?_ | refine blk_alloc ?_ _)); exact BK175.out) NB175_153.out (by simp)); have n3_ := Aside0.mk (hb); have n4_ := Aside0.mk (hi); clear BK154; clear BK157; clear BK175; clear HB; clear HI153; have BK154 := n0_; have BK157 := n1_; have BK175 := n2_; have HB := n3_; have HI153 := n4_; clear n0_ n1_ n2_ n3_ n4_; (try clear hb); (try clear hb2); (try clear hk); (try clear hi)))
                            go_ret
                            exact ⟨by first | rfl | (simp [errW_none, errW_some] <;> rfl) | (simp [*, errW_none, errW_some] <;> rfl), by repeat (first | (with_reducible first | exact HB.out | apply below_alloc | apply pw_below_drewN | apply below_drew1 | refine below_set ?_ (IsS35.ge HI153.out) | refine below_set ?_ GE154.out | refine below_set ?_ GE157.out | refine below_set ?_ GE175.out) | exact HB.out)⟩
                          · rw [if_neg c81] at H
                            have c81b0 : (t176 != t174) = false := by simpa using c81
                            (try (have c81b1 : decide (t176 = t174) = true := by simpa using c81))
                            (try (have c81b2 : (t176 == t174) = true := by simpa using c81))
                            clear c81
                            have H' := Aside0.mk H
                            clear H
                            have hnb93 := NB154_157.out
                            have hnc93 := NB157_154.out
                            have hnb94 := NB154_153.out
                            have hnc94 := NB153_154.out
                            have hcz95_0 : w16.cell? ⟨gb154, 0, none⟩ = some (.string x155000_2) := (blk_cell BK154.out 0).trans rfl
                            have hcz95_1 : w16.cell? ⟨gb154, 1, none⟩ = some (.int .i64 x155001_2) := (blk_cell BK154.out 1).trans rfl
                            have hfz95_0 := blk_frozen BK154.out 0
                            have hfz95_1 := blk_frozen BK154.out 1
                            go_wp2_with (first | ((with_reducible refine gate_callee (f := 19) rfl ?_); refine goesL_ (some 72) rfl rfl Try.func19 (by kernel_rfl) rfl #[.agg #[.string x155000_2, .int .i64 x155001_2]] rfl (by (try simp only [List.map_toArray, List.map_cons, List.map_nil]); first | done | rfl | (simp only [List.length_drop, List.length_take]; rfl) | (simp (disch := first | omega | (simp at *; omega)) only [u64_id, i64_id, u8_id]; rfl)) ?_; (with_reducible refine (bosunref02_TakeFlag.calls k2 x155000_2 x155001_2 t172 t173 t174 _ A79.out).mono ?_); rintro e w96 ⟨rfl, hb⟩; refine ⟨_, rfl, ?_⟩; have n0_ := Aside0.mk (blk_below (g := gb154) (o := .cells #[.string x155000_2, .int .i64 x155001_2] 37 (0, 0)) (by (with_reducible repeat (first | refine blk_drewN ?_ _ | refine blk_drew ?_ | refine blk_alloc ?_ _)); refine blk_far ?_ NB154_157.out _; (with_reducible repeat (first | refine blk_drewN ?_ _ | refine blk_drew ?_ | refine blk_alloc ?_ _)); refine blk_far ?_ NB154_157.out _; (with_reducible repeat (first | refine blk_drewN ?_ _ | refine blk_drew ?_ | refine blk_alloc ?_ _)); exact BK154.out) hb); have n1_ := Aside0.mk (IsS35.below (show IsS35 w ((w16.setCell ⟨gb157, 0, none⟩ (.int .u8 ((rd_T39 l1 x33_2).f0))).setCell ⟨gb157, 1, none⟩ (.int .i64 ((rd_T39 l1 x33_2).f1))) gb153 x154000_2 x154001_2 from by repeat (first | (with_reducible first | exact HI153.out | apply IsS35.alloc | apply IsS35.drewN | apply IsS35.drew | apply IsS35.set_0 | apply IsS35.set_1 | refine IsS35.far ?_ NB153_154.out _ | refine IsS35.far ?_ NB153_157.out _) | exact HI153.out)) hb); have n2_ := Aside0.mk (blk_below (g := gb157) (o := .cells #[.int .u8 ((rd_T39 l1 x33_2).f0), .int .i64 ((rd_T39 l1 x33_2).f1)] 39 (0, 0)) (by (with_reducible repeat (first | refine blk_drewN ?_ _ | refine blk_drew ?_ | refine blk_alloc ?_ _)); refine blk_put (cs := #[.int .u8 ((rd_T39 l1 x33_2).f0), .int .i64 0]) ?_ 1 _ rfl; (with_reducible repeat (first | refine blk_drewN ?_ _ | refine blk_drew ?_ | refine blk_alloc ?_ _)); refine blk_put (cs := #[.int .u8 0, .int .i64 0]) ?_ 0 _ rfl; (with_reducible repeat (first | refine blk_drewN ?_ _ | refine blk_drew ?_ | refine blk_alloc ?_ _)); exact BK157.out) hb); have n3_ := Aside0.mk (below_step (by repeat (first | (with_reducible first | exact HB.out | apply below_alloc | apply pw_below_drewN | apply below_drew1 | refine below_set ?_ (IsS35.ge HI153.out) | refine below_set ?_ GE154.out | refine below_set ?_ GE157.out) | exact HB.out)) hb); clear BK154; clear HI153; clear BK157; clear HB; have BK154 := n0_; have HI153 := n1_; have BK157 := n2_; have HB := n3_; clear n0_ n1_ n2_ n3_; (try clear hb); (try clear hb2); (try clear hk); (try clear hi)) | ((with_reducible refine gate_dst (N := 13) rfl ?_); (try (refine gate_guard (by rfl) ?_; dsimp only)); refine box_event ?hg (N := 13) ?hd (cs := #[.string (⟨#[]⟩ : ByteArray), .int .i64 0]) (t := 37) ?hr ?_; (case hd => rfl); (case hg => rfl); (case hr => first | (go_simp; done) | (go_simp; rfl)); intro gb175 hg w97 hbox hb; have n0_ := Aside0.mk (blk_below (g := gb154) (o := .cells #[.string x155000_2, .int .i64 x155001_2] 37 (0, 0)) (by (with_reducible repeat (first | refine blk_drewN ?_ _ | refine blk_drew ?_ | refine blk_alloc ?_ _)); exact BK154.out) hb); have n1_ := Aside0.mk (IsS35.below (by repeat (first | (with_reducible first | exact HI153.out | apply IsS35.alloc | apply IsS35.drewN | apply IsS35.drew | apply IsS35.set_0 | apply IsS35.set_1 | refine IsS35.far ?_ NB153_154.out _ | refine IsS35.far ?_ NB153_157.out _) | exact HI153.out)) hb); have n2_ := Aside0.mk (blk_below (g := gb157) (o := .cells #[.int .u8 ((rd_T39 l1 x33_2).f0), .int .i64 ((rd_T39 l1 x33_2).f1)] 39 (0, 0)) (by (with_reducible repeat (first | refine blk_drewN ?_ _ | refine blk_drew ?_ | refine blk_alloc ?_ _)); exact BK157.out) hb); have n3_ := Aside0.mk (below_step (by repeat (first | (with_reducible first | exact HB.out | apply below_alloc | apply pw_below_drewN | apply below_drew1 | refine below_set ?_ (IsS35.ge HI153.out) | refine below_set ?_ GE154.out | refine below_set ?_ GE157.out) | exact HB.out)) hb); have n4_ := Aside0.mk (hbox); have n5_ := Aside0.mk ((by rw [hg]; exact (below_size (by repeat (first | (with_reducible first | exact HB.out | apply below_alloc | apply pw_below_drewN | apply below_drew1 | refine below_set ?_ (IsS35.ge HI153.out) | refine below_set ?_ GE154.out | refine below_set ?_ GE157.out) | exact HB.out))) : w.heap.size ≤ gb175)); have n6_ := Aside0.mk ((by rw [hg]; exact (below_size (by repeat (first | (with_reducible first | exact HB.out | apply below_alloc | apply pw_below_drewN | apply below_drew1 | refine below_set ?_ (IsS35.ge HI153.out) | refine below_set ?_ GE154.out | refine below_set ?_ GE157.out) | exact HB.out))) : w.heap.size ≤ gb175)); have n7_ := Aside0.mk ((by rw [hg]; exact Nat.ne_of_lt (blk_lt (g := gb154) (o := .cells #[.string x155000_2, .int .i64 x155001_2] 37 (0, 0)) (by (with_reducible repeat (first | refine blk_drewN ?_ _ | refine blk_drew ?_ | refine blk_alloc ?_ _)); exact BK154.out)) : gb154 ≠ gb175)); have n8_ := Aside0.mk ((by rw [hg]; exact Nat.ne_of_gt (blk_lt (g := gb154) (o := .cells #[.string x155000_2, .int .i64 x155001_2] 37 (0, 0)) (by (with_reducible repeat (first | refine blk_drewN ?_ _ | refine blk_drew ?_ | refine blk_alloc ?_ _)); exact BK154.out)) : gb175 ≠ gb154)); have n9_ := Aside0.mk ((by rw [hg]; exact Nat.ne_of_lt (blk_lt (g := gb157) (o := .cells #[.int .u8 ((rd_T39 l1 x33_2).f0), .int .i64 ((rd_T39 l1 x33_2).f1)] 39 (0, 0)) (by (with_reducible repeat (first | refine blk_drewN ?_ _ | refine blk_drew ?_ | refine blk_alloc ?_ _)); exact BK157.out)) : gb157 ≠ gb175)); have n10_ := Aside0.mk ((by rw [hg]; exact Nat.ne_of_gt (blk_lt (g := gb157) (o := .cells #[.int .u8 ((rd_T39 l1 x33_2).f0), .int .i64 ((rd_T39 l1 x33_2).f1)] 39 (0, 0)) (by (with_reducible repeat (first | refine blk_drewN ?_ _ | refine blk_drew ?_ | refine blk_alloc ?_ _)); exact BK157.out)) : gb175 ≠ gb157)); have n11_ := Aside0.mk ((by rw [hg]; exact Nat.ne_of_lt (IsS35.lt (show IsS35 w _ gb153 x154000_2 x154001_2 from by repeat (first | (with_reducible first | exact HI153.out | apply IsS35.alloc | apply IsS35.drewN | apply IsS35.drew | apply IsS35.set_0 | apply IsS35.set_1 | refine IsS35.far ?_ NB153_154.out _ | refine IsS35.far ?_ NB153_157.out _) | exact HI153.out))) : gb153 ≠ gb175)); have n12_ := Aside0.mk ((by rw [hg]; exact Nat.ne_of_gt (IsS35.lt (show IsS35 w _ gb153 x154000_2 x154001_2 from by repeat (first | (with_reducible first | exact HI153.out | apply IsS35.alloc | apply IsS35.drewN | apply IsS35.drew | apply IsS35.set_0 | apply IsS35.set_1 | refine IsS35.far ?_ NB153_154.out _ | refine IsS35.far ?_ NB153_157.out _) | exact HI153.out))) : gb175 ≠ gb153)); clear BK154; clear HI153; clear BK157; clear HB; have BK154 := n0_; have HI153 := n1_; have BK157 := n2_; have HB := n3_; have BK175 := n4_; have GW175 := n5_; have GE175 := n6_; have NB154_175 := n7_; have NB175_154 := n8_; have NB157_175 := n9_; have NB175_157 := n10_; have NB153_175 := n11_; have NB175_153 := n12_; clear n0_ n1_ n2_ n3_ n4_ n5_ n6_ n7_ n8_ n9_ n10_ n11_ n12_; clear hb hbox hg; have hnb98 := NB175_154.out; have hnc98 := NB154_175.out; have hnb99 := NB175_157.out; have hnc99 := NB157_175.out; have hnb100 := NB175_153.out; have hnc100 := NB153_175.out; have hcz101_0 : w97.cell? ⟨gb175, 0, none⟩ = some (.string (⟨#[]⟩ : ByteArray)) := (blk_cell BK175.out 0).trans rfl; have hcz101_1 : w97.cell? ⟨gb175, 1, none⟩ = some (.int .i64 0) := (blk_cell BK175.out 1).trans rfl; have hfz101_0 := blk_frozen BK175.out 0; have hfz101_1 := blk_frozen BK175.out 1; have hcz102_0 : w97.cell? ⟨gb154, 0, none⟩ = some (.string x155000_2) := (blk_cell BK154.out 0).trans rfl; have hcz102_1 : w97.cell? ⟨gb154, 1, none⟩ = some (.int .i64 x155001_2) := (blk_cell BK154.out 1).trans rfl; have hfz102_0 := blk_frozen BK154.out 0; have hfz102_1 := blk_frozen BK154.out 1) | ((with_reducible refine gate_callee (f := 20) rfl ?_); refine goesL_ (some 77) rfl rfl Try.func20 (by kernel_rfl) rfl #[.pointer (some ⟨gb153, 0, none⟩)] rfl (by (try simp only [List.map_toArray, List.map_cons, List.map_nil]); first | done | rfl | (simp only [List.length_drop, List.length_take]; rfl) | (simp (disch := first | omega | (simp at *; omega)) only [u64_id, i64_id, u8_id]; rfl)) ?_; (with_reducible refine (pack_Taker_Flag.calls k2 gb153 x154000_2 x154001_2 t176 t177 t178 w _ ?side1 ?side2 A80.out).mono ?_); (case side1 => repeat (first | (with_reducible first | exact HI153.out | apply IsS35.alloc | apply IsS35.drewN | apply IsS35.drew | apply IsS35.set_0 | apply IsS35.set_1 | refine IsS35.far ?_ NB153_154.out _ | refine IsS35.far ?_ NB153_157.out _ | refine IsS35.far ?_ NB153_175.out _) | exact HI153.out)); (case side2 => repeat (first | (with_reducible first | exact HB.out | apply below_alloc | apply pw_below_drewN | apply below_drew1 | refine below_set ?_ (IsS35.ge HI153.out) | refine below_set ?_ GE154.out | refine below_set ?_ GE157.out | refine below_set ?_ GE175.out) | exact HB.out)); rintro e w103 ⟨rfl, hi, hb, hk⟩; refine ⟨_, rfl, ?_⟩; have n0_ := Aside0.mk (KeepBut.blk hk (g' := gb154) (o := .cells #[.string t172, .int .i64 t173] 37 (0, 0)) (by (with_reducible repeat (first | refine blk_drewN ?_ _ | refine blk_drew ?_ | refine blk_alloc ?_ _)); refine blk_put (cs := #[.string t172, .int .i64 x155001_2]) ?_ 1 _ rfl; (with_reducible repeat (first | refine blk_drewN ?_ _ | refine blk_drew ?_ | refine blk_alloc ?_ _)); refine blk_put (cs := #[.string x155000_2, .int .i64 x155001_2]) ?_ 0 _ rfl; (with_reducible repeat (first | refine blk_drewN ?_ _ | refine blk_drew ?_ | refine blk_alloc ?_ _)); refine blk_far ?_ NB154_175.out _; (with_reducible repeat (first | refine blk_drewN ?_ _ | refine blk_drew ?_ | refine blk_alloc ?_ _)); refine blk_far ?_ NB154_175.out _; (with_reducible repeat (first | refine blk_drewN ?_ _ | refine blk_drew ?_ | refine blk_alloc ?_ _)); exact BK154.out) NB154_153.out (by simp)); have n1_ := Aside0.mk (KeepBut.blk hk (g' := gb157) (o := .cells #[.int .u8 ((rd_T39 l1 x33_2).f0), .int .i64 ((rd_T39 l1 x33_2).f1)] 39 (0, 0)) (by (with_reducible repeat (first | refine blk_drewN ?_ _ | refine blk_drew ?_ | refine blk_alloc ?_ _)); refine blk_far ?_ NB157_154.out _; (with_reducible repeat (first | refine blk_drewN ?_ _ | refine blk_drew ?_ | refine blk_alloc ?_ _)); refine blk_far ?_ NB157_154.out _; (with_reducible repeat (first | refine blk_drewN ?_ _ | refine blk_drew ?_ | refine blk_alloc ?_ _)); refine blk_far ?_ NB157_175.out _; (with_reducible repeat (first | refine blk_drewN ?_ _ | refine blk_drew ?_ | refine blk_alloc ?_ _)); refine blk_far ?_ NB157_175.out _; (with_reducible repeat (first | refine blk_drewN ?_ _ | refine blk_drew ?_ | refine blk_alloc ?_ _)); exact BK157.out) NB157_153.out (by simp)); have n2_ := Aside0.mk (KeepBut.blk hk (g' := gb175) (o := .cells #[.string t172, .int .i64 t173] 37 (0, 0)) (by (with_reducible repeat (first | refine blk_drewN ?_ _ | refine blk_drew ?_ | refine blk_alloc ?_ _)); refine blk_far ?_ NB175_154.out _; (with_reducible repeat (first | refine blk_drewN ?_ _ | refine blk_drew ?_ | refine blk_alloc ?_ _)); refine blk_far ?_ NB175_154.out _; (with_reducible repeat (first | refine blk_drewN ?_ _ | refine blk_drew ?_ | refine blk_alloc ?_ _)); refine blk_put (cs := #[.string t172, .int .i64 0]) ?_ 1 _ rfl; (with_reducible repeat (first | refine blk_drewN ?_ _ | refine blk_drew ?_ | refine blk_alloc ?_ _)); refine blk_put (cs := #[.string (⟨#[]⟩ : ByteArray), .int .i64 0]) ?_ 0 _ rfl; (with_reducible repeat (first | refine blk_drewN ?_ _ | refine blk_drew ?_ | refine blk_alloc ?_ _)); exact BK175.out) NB175_153.out (by simp)); have n3_ := Aside0.mk (hb); have n4_ := Aside0.mk (hi); clear BK154; clear BK157; clear BK175; clear HB; clear HI153; have BK154 := n0_; have BK157 := n1_; have BK175 := n2_; have HB := n3_; have HI153 := n4_; clear n0_ n1_ n2_ n3_ n4_; (try clear hb); (try clear hb2); (try clear hk); (try clear hi)))
                            go_meet
                            case rel => exact ⟨_, (t177), (t178), (t172), (t173), H', ⟨by have := HJ2.out; have := HK2.out; first | omega | exact Nat.le_refl _⟩, ⟨by (with_reducible repeat (first | refine blk_drewN ?_ _ | refine blk_drew ?_ | refine blk_alloc ?_ _)); exact BK154.out⟩, ⟨by (with_reducible repeat (first | refine blk_drewN ?_ _ | refine blk_drew ?_ | refine blk_alloc ?_ _)); exact BK157.out⟩, ⟨by repeat (first | (with_reducible first | exact HI153.out | apply IsS35.alloc | apply IsS35.drewN | apply IsS35.drew | apply IsS35.set_0 | apply IsS35.set_1 | refine IsS35.far ?_ NB153_154.out _ | refine IsS35.far ?_ NB153_157.out _ | refine IsS35.far ?_ NB153_175.out _) | exact HI153.out)⟩, ⟨by repeat (first | (with_reducible first | exact HB.out | apply below_alloc | apply pw_below_drewN | apply below_drew1 | refine below_set ?_ (IsS35.ge HI153.out) | refine below_set ?_ GE154.out | refine below_set ?_ GE157.out | refine below_set ?_ GE175.out) | exact HB.out)⟩⟩
                        · rw [if_neg c78] at H
                          have c78b0 : (((rd_T39 l1 x33_2).f0) == 2) = false := beq_eq_false_iff_ne.mpr c78
                          have c78b1 : (((rd_T39 l1 x33_2).f0) != 2) = true := bne_iff_ne.mpr c78
                          by_cases c104 : ((rd_T39 l1 x33_2).f0) = 3
                          · rw [if_pos c104] at H
                            have c104b0 : (((rd_T39 l1 x33_2).f0) == 3) = true := beq_iff_eq.mpr c104
                            have c104b1 : (((rd_T39 l1 x33_2).f0) != 3) = false := bne_eq_false_iff_eq.mpr c104
                            clear c104
                            replace H := Option.bind_eq_some_iff.mp H
                            obtain ⟨⟨t179, t180, t181⟩, A1050, H⟩ := H
                            replace H : ((pack_Taker_Text.f k2 x154000_2 x154001_2).bind fun bt183 => (if bt183.1.toList = t181.toList then (bosunlaw02_PackTakes.j2 k2 l1 (l1.length : Int) x33_2 bt183.2.1 bt183.2.2 t179 t180) else (some false))) = some r := H
                            have A105 := Aside0.mk A1050
                            clear A1050
                            replace H := Option.bind_eq_some_iff.mp H
                            obtain ⟨⟨t183, t184, t185⟩, A1060, H⟩ := H
                            replace H : (if t183.toList = t181.toList then (bosunlaw02_PackTakes.j2 k2 l1 (l1.length : Int) x33_2 t184 t185 t179 t180) else (some false)) = some r := H
                            have A106 := Aside0.mk A1060
                            clear A1060
                            by_cases c107 : t183.toList = t181.toList
                            · rw [if_pos c107] at H
                              have c107b0 : (t183.toList == t181.toList) = true := beq_iff_eq.mpr c107
                              have c107b1 : (t183.toList != t181.toList) = false := bne_eq_false_iff_eq.mpr c107
                              clear c107
                              have H' := Aside0.mk H
                              clear H
                              have hnb108 := NB154_157.out
                              have hnc108 := NB157_154.out
                              have hnb109 := NB154_153.out
                              have hnc109 := NB153_154.out
                              have hcz110_0 : w16.cell? ⟨gb154, 0, none⟩ = some (.string x155000_2) := (blk_cell BK154.out 0).trans rfl
                              have hcz110_1 : w16.cell? ⟨gb154, 1, none⟩ = some (.int .i64 x155001_2) := (blk_cell BK154.out 1).trans rfl
                              have hfz110_0 := blk_frozen BK154.out 0
                              have hfz110_1 := blk_frozen BK154.out 1
                              go_wp2_with (first | ((with_reducible refine gate_callee (f := 21) rfl ?_); refine goesL_ (some 84) rfl rfl Try.func21 (by kernel_rfl) rfl #[.agg #[.string x155000_2, .int .i64 x155001_2]] rfl (by (try simp only [List.map_toArray, List.map_cons, List.map_nil]); first | done | rfl | (simp only [List.length_drop, List.length_take]; rfl) | (simp (disch := first | omega | (simp at *; omega)) only [u64_id, i64_id, u8_id]; rfl)) ?_; (with_reducible refine (bosunref02_TakeText.calls k2 x155000_2 x155001_2 t179 t180 t181 _ A105.out).mono ?_); rintro e w111 ⟨rfl, hb⟩; refine ⟨_, rfl, ?_⟩; have n0_ := Aside0.mk (blk_below (g := gb154) (o := .cells #[.string x155000_2, .int .i64 x155001_2] 37 (0, 0)) (by (with_reducible repeat (first | refine blk_drewN ?_ _ | refine blk_drew ?_ | refine blk_alloc ?_ _)); refine blk_far ?_ NB154_157.out _; (with_reducible repeat (first | refine blk_drewN ?_ _ | refine blk_drew ?_ | refine blk_alloc ?_ _)); refine blk_far ?_ NB154_157.out _; (with_reducible repeat (first | refine blk_drewN ?_ _ | refine blk_drew ?_ | refine blk_alloc ?_ _)); exact BK154.out) hb); have n1_ := Aside0.mk (IsS35.below (show IsS35 w ((w16.setCell ⟨gb157, 0, none⟩ (.int .u8 ((rd_T39 l1 x33_2).f0))).setCell ⟨gb157, 1, none⟩ (.int .i64 ((rd_T39 l1 x33_2).f1))) gb153 x154000_2 x154001_2 from by repeat (first | (with_reducible first | exact HI153.out | apply IsS35.alloc | apply IsS35.drewN | apply IsS35.drew | apply IsS35.set_0 | apply IsS35.set_1 | refine IsS35.far ?_ NB153_154.out _ | refine IsS35.far ?_ NB153_157.out _) | exact HI153.out)) hb); have n2_ := Aside0.mk (blk_below (g := gb157) (o := .cells #[.int .u8 ((rd_T39 l1 x33_2).f0), .int .i64 ((rd_T39 l1 x33_2).f1)] 39 (0, 0)) (by (with_reducible repeat (first | refine blk_drewN ?_ _ | refine blk_drew ?_ | refine blk_alloc ?_ _)); refine blk_put (cs := #[.int .u8 ((rd_T39 l1 x33_2).f0), .int .i64 0]) ?_ 1 _ rfl; (with_reducible repeat (first | refine blk_drewN ?_ _ | refine blk_drew ?_ | refine blk_alloc ?_ _)); refine blk_put (cs := #[.int .u8 0, .int .i64 0]) ?_ 0 _ rfl; (with_reducible repeat (first | refine blk_drewN ?_ _ | refine blk_drew ?_ | refine blk_alloc ?_ _)); exact BK157.out) hb); have n3_ := Aside0.mk (below_step (by repeat (first | (with_reducible first | exact HB.out | apply below_alloc | apply pw_below_drewN | apply below_drew1 | refine below_set ?_ (IsS35.ge HI153.out) | refine below_set ?_ GE154.out | refine below_set ?_ GE157.out) | exact HB.out)) hb); clear BK154; clear HI153; clear BK157; clear HB; have BK154 := n0_; have HI153 := n1_; have BK157 := n2_; have HB := n3_; clear n0_ n1_ n2_ n3_; (try clear hb); (try clear hb2); (try clear hk); (try clear hi)) | ((with_reducible refine gate_dst (N := 15) rfl ?_); (try (refine gate_guard (by rfl) ?_; dsimp only)); refine box_event ?hg (N := 15) ?hd (cs := #[.string (⟨#[]⟩ : ByteArray), .int .i64 0]) (t := 37) ?hr ?_; (case hd => rfl); (case hg => rfl); (case hr => first | (go_simp; done) | (go_simp; rfl)); intro gb182 hg w112 hbox hb; have n0_ := Aside0.mk (blk_below (g := gb154) (o := .cells #[.string x155000_2, .int .i64 x155001_2] 37 (0, 0)) (by (with_reducible repeat (first | refine blk_drewN ?_ _ | refine blk_drew ?_ | refine blk_alloc ?_ _)); exact BK154.out) hb); have n1_ := Aside0.mk (IsS35.below (by repeat (first | (with_reducible first | exact HI153.out | apply IsS35.alloc | apply IsS35.drewN | apply IsS35.drew | apply IsS35.set_0 | apply IsS35.set_1 | refine IsS35.far ?_ NB153_154.out _ | refine IsS35.far ?_ NB153_157.out _) | exact HI153.out)) hb); have n2_ := Aside0.mk (blk_below (g := gb157) (o := .cells #[.int .u8 ((rd_T39 l1 x33_2).f0), .int .i64 ((rd_T39 l1 x33_2).f1)] 39 (0, 0)) (by (with_reducible repeat (first | refine blk_drewN ?_ _ | refine blk_drew ?_ | refine blk_alloc ?_ _)); exact BK157.out) hb); have n3_ := Aside0.mk (below_step (by repeat (first | (with_reducible first | exact HB.out | apply below_alloc | apply pw_below_drewN | apply below_drew1 | refine below_set ?_ (IsS35.ge HI153.out) | refine below_set ?_ GE154.out | refine below_set ?_ GE157.out) | exact HB.out)) hb); have n4_ := Aside0.mk (hbox); have n5_ := Aside0.mk ((by rw [hg]; exact (below_size (by repeat (first | (with_reducible first | exact HB.out | apply below_alloc | apply pw_below_drewN | apply below_drew1 | refine below_set ?_ (IsS35.ge HI153.out) | refine below_set ?_ GE154.out | refine below_set ?_ GE157.out) | exact HB.out))) : w.heap.size ≤ gb182)); have n6_ := Aside0.mk ((by rw [hg]; exact (below_size (by repeat (first | (with_reducible first | exact HB.out | apply below_alloc | apply pw_below_drewN | apply below_drew1 | refine below_set ?_ (IsS35.ge HI153.out) | refine below_set ?_ GE154.out | refine below_set ?_ GE157.out) | exact HB.out))) : w.heap.size ≤ gb182)); have n7_ := Aside0.mk ((by rw [hg]; exact Nat.ne_of_lt (blk_lt (g := gb154) (o := .cells #[.string x155000_2, .int .i64 x155001_2] 37 (0, 0)) (by (with_reducible repeat (first | refine blk_drewN ?_ _ | refine blk_drew ?_ | refine blk_alloc ?_ _)); exact BK154.out)) : gb154 ≠ gb182)); have n8_ := Aside0.mk ((by rw [hg]; exact Nat.ne_of_gt (blk_lt (g := gb154) (o := .cells #[.string x155000_2, .int .i64 x155001_2] 37 (0, 0)) (by (with_reducible repeat (first | refine blk_drewN ?_ _ | refine blk_drew ?_ | refine blk_alloc ?_ _)); exact BK154.out)) : gb182 ≠ gb154)); have n9_ := Aside0.mk ((by rw [hg]; exact Nat.ne_of_lt (blk_lt (g := gb157) (o := .cells #[.int .u8 ((rd_T39 l1 x33_2).f0), .int .i64 ((rd_T39 l1 x33_2).f1)] 39 (0, 0)) (by (with_reducible repeat (first | refine blk_drewN ?_ _ | refine blk_drew ?_ | refine blk_alloc ?_ _)); exact BK157.out)) : gb157 ≠ gb182)); have n10_ := Aside0.mk ((by rw [hg]; exact Nat.ne_of_gt (blk_lt (g := gb157) (o := .cells #[.int .u8 ((rd_T39 l1 x33_2).f0), .int .i64 ((rd_T39 l1 x33_2).f1)] 39 (0, 0)) (by (with_reducible repeat (first | refine blk_drewN ?_ _ | refine blk_drew ?_ | refine blk_alloc ?_ _)); exact BK157.out)) : gb182 ≠ gb157)); have n11_ := Aside0.mk ((by rw [hg]; exact Nat.ne_of_lt (IsS35.lt (show IsS35 w _ gb153 x154000_2 x154001_2 from by repeat (first | (with_reducible first | exact HI153.out | apply IsS35.alloc | apply IsS35.drewN | apply IsS35.drew | apply IsS35.set_0 | apply IsS35.set_1 | refine IsS35.far ?_ NB153_154.out _ | refine IsS35.far ?_ NB153_157.out _) | exact HI153.out))) : gb153 ≠ gb182)); have n12_ := Aside0.mk ((by rw [hg]; exact Nat.ne_of_gt (IsS35.lt (show IsS35 w _ gb153 x154000_2 x154001_2 from by repeat (first | (with_reducible first | exact HI153.out | apply IsS35.alloc | apply IsS35.drewN | apply IsS35.drew | apply IsS35.set_0 | apply IsS35.set_1 | refine IsS35.far ?_ NB153_154.out _ | refine IsS35.far ?_ NB153_157.out _) | exact HI153.out))) : gb182 ≠ gb153)); clear BK154; clear HI153; clear BK157; clear HB; have BK154 := n0_; have HI153 := n1_; have BK157 := n2_; have HB := n3_; have BK182 := n4_; have GW182 := n5_; have GE182 := n6_; have NB154_182 := n7_; have NB182_154 := n8_; have NB157_182 := n9_; have NB182_157 := n10_; have NB153_182 := n11_; have NB182_153 := n12_; clear n0_ n1_ n2_ n3_ n4_ n5_ n6_ n7_ n8_ n9_ n10_ n11_ n12_; clear hb hbox hg; have hnb113 := NB182_154.out; have hnc113 := NB154_182.out; have hnb114 := NB182_157.out; have hnc114 := NB157_182.out; have hnb115 := NB182_153.out; have hnc115 := NB153_182.out; have hcz116_0 : w112.cell? ⟨gb182, 0, none⟩ = some (.string (⟨#[]⟩ : ByteArray)) := (blk_cell BK182.out 0).trans rfl; have hcz116_1 : w112.cell? ⟨gb182, 1, none⟩ = some (.int .i64 0) := (blk_cell BK182.out 1).trans rfl; have hfz116_0 := blk_frozen BK182.out 0; have hfz116_1 := blk_frozen BK182.out 1; have hcz117_0 : w112.cell? ⟨gb154, 0, none⟩ = some (.string x155000_2) := (blk_cell BK154.out 0).trans rfl; have hcz117_1 : w112.cell? ⟨gb154, 1, none⟩ = some (.int .i64 x155001_2) := (blk_cell BK154.out 1).trans rfl; have hfz117_0 := blk_frozen BK154.out 0; have hfz117_1 := blk_frozen BK154.out 1) | ((with_reducible refine gate_callee (f := 22) rfl ?_); refine goesL_ (some 89) rfl rfl Try.func22 (by kernel_rfl) rfl #[.pointer (some ⟨gb153, 0, none⟩)] rfl (by (try simp only [List.map_toArray, List.map_cons, List.map_nil]); first | done | rfl | (simp only [List.length_drop, List.length_take]; rfl) | (simp (disch := first | omega | (simp at *; omega)) only [u64_id, i64_id, u8_id]; rfl)) ?_; (with_reducible refine (pack_Taker_Text.calls k2 gb153 x154000_2 x154001_2 t183 t184 t185 w _ ?side1 ?side2 A106.out).mono ?_); (case side1 => repeat (first | (with_reducible first | exact HI153.out | apply IsS35.alloc | apply IsS35.drewN | apply IsS35.drew | apply IsS35.set_0 | apply IsS35.set_1 | refine IsS35.far ?_ NB153_154.out _ | refine IsS35.far ?_ NB153_157.out _ | refine IsS35.far ?_ NB153_182.out _) | exact HI153.out)); (case side2 => repeat (first | (with_reducible first | exact HB.out | apply below_alloc | apply pw_below_drewN | apply below_drew1 | refine below_set ?_ (IsS35.ge HI153.out) | refine below_set ?_ GE154.out | refine below_set ?_ GE157.out | refine below_set ?_ GE182.out) | exact HB.out)); rintro e w118 ⟨rfl, hi, hb, hk⟩; refine ⟨_, rfl, ?_⟩; have n0_ := Aside0.mk (KeepBut.blk hk (g' := gb154) (o := .cells #[.string t179, .int .i64 t180] 37 (0, 0)) (by (with_reducible repeat (first | refine blk_drewN ?_ _ | refine blk_drew ?_ | refine blk_alloc ?_ _)); refine blk_put (cs := #[.string t179, .int .i64 x155001_2]) ?_ 1 _ rfl; (with_reducible repeat (first | refine blk_drewN ?_ _ | refine blk_drew ?_ | refine blk_alloc ?_ _)); refine blk_put (cs := #[.string x155000_2, .int .i64 x155001_2]) ?_ 0 _ rfl; (with_reducible repeat (first | refine blk_drewN ?_ _ | refine blk_drew ?_ | refine blk_alloc ?_ _)); refine blk_far ?_ NB154_182.out _; (with_reducible repeat (first | refine blk_drewN ?_ _ | refine blk_drew ?_ | refine blk_alloc ?_ _)); refine blk_far ?_ NB154_182.out _; (with_reducible repeat (first | refine blk_drewN ?_ _ | refine blk_drew ?_ | refine blk_alloc ?_ _)); exact BK154.out) NB154_153.out (by simp)); have n1_ := Aside0.mk (KeepBut.blk hk (g' := gb157) (o := .cells #[.int .u8 ((rd_T39 l1 x33_2).f0), .int .i64 ((rd_T39 l1 x33_2).f1)] 39 (0, 0)) (by (with_reducible repeat (first | refine blk_drewN ?_ _ | refine blk_drew ?_ | refine blk_alloc ?_ _)); refine blk_far ?_ NB157_154.out _; (with_reducible repeat (first | refine blk_drewN ?_ _ | refine blk_drew ?_ | refine blk_alloc ?_ _)); refine blk_far ?_ NB157_154.out _; (with_reducible repeat (first | refine blk_drewN ?_ _ | refine blk_drew ?_ | refine blk_alloc ?_ _)); refine blk_far ?_ NB157_182.out _; (with_reducible repeat (first | refine blk_drewN ?_ _ | refine blk_drew ?_ | refine blk_alloc ?_ _)); refine blk_far ?_ NB157_182.out _; (with_reducible repeat (first | refine blk_drewN ?_ _ | refine blk_drew ?_ | refine blk_alloc ?_ _)); exact BK157.out) NB157_153.out (by simp)); have n2_ := Aside0.mk (KeepBut.blk hk (g' := gb182) (o := .cells #[.string t179, .int .i64 t180] 37 (0, 0)) (by (with_reducible repeat (first | refine blk_drewN ?_ _ | refine blk_drew ?_ | refine blk_alloc ?_ _)); refine blk_far ?_ NB182_154.out _; (with_reducible repeat (first | refine blk_drewN ?_ _ | refine blk_drew ?_ | refine blk_alloc ?_ _)); refine blk_far ?_ NB182_154.out _; (with_reducible repeat (first | refine blk_drewN ?_ _ | refine blk_drew ?_ | refine blk_alloc ?_ _)); refine blk_put (cs := #[.string t179, .int .i64 0]) ?_ 1 _ rfl; (with_reducible repeat (first | refine blk_drewN ?_ _ | refine blk_drew ?_ | refine blk_alloc ?_ _)); refine blk_put (cs := #[.string (⟨#[]⟩ : ByteArray), .int .i64 0]) ?_ 0 _ rfl; (with_reducible repeat (first | refine blk_drewN ?_ _ | refine blk_drew ?_ | refine blk_alloc ?_ _)); exact BK182.out) NB182_153.out (by simp)); have n3_ := Aside0.mk (hb); have n4_ := Aside0.mk (hi); clear BK154; clear BK157; clear BK182; clear HB; clear HI153; have BK154 := n0_; have BK157 := n1_; have BK182 := n2_; have HB := n3_; have HI153 := n4_; clear n0_ n1_ n2_ n3_ n4_; (try clear hb); (try clear hb2); (try clear hk); (try clear hi)))
                              go_meet
                              case rel => exact ⟨_, (t184), (t185), (t179), (t180), H', ⟨by have := HJ2.out; have := HK2.out; first | omega | exact Nat.le_refl _⟩, ⟨by (with_reducible repeat (first | refine blk_drewN ?_ _ | refine blk_drew ?_ | refine blk_alloc ?_ _)); exact BK154.out⟩, ⟨by (with_reducible repeat (first | refine blk_drewN ?_ _ | refine blk_drew ?_ | refine blk_alloc ?_ _)); exact BK157.out⟩, ⟨by repeat (first | (with_reducible first | exact HI153.out | apply IsS35.alloc | apply IsS35.drewN | apply IsS35.drew | apply IsS35.set_0 | apply IsS35.set_1 | refine IsS35.far ?_ NB153_154.out _ | refine IsS35.far ?_ NB153_157.out _ | refine IsS35.far ?_ NB153_182.out _) | exact HI153.out)⟩, ⟨by repeat (first | (with_reducible first | exact HB.out | apply below_alloc | apply pw_below_drewN | apply below_drew1 | refine below_set ?_ (IsS35.ge HI153.out) | refine below_set ?_ GE154.out | refine below_set ?_ GE157.out | refine below_set ?_ GE182.out) | exact HB.out)⟩⟩
                            · rw [if_neg c107] at H
                              have c107b0 : (t183.toList == t181.toList) = false := beq_eq_false_iff_ne.mpr c107
                              have c107b1 : (t183.toList != t181.toList) = true := bne_iff_ne.mpr c107
                              obtain rfl := Option.some.inj H
                              have hnb119 := NB154_157.out
                              have hnc119 := NB157_154.out
                              have hnb120 := NB154_153.out
                              have hnc120 := NB153_154.out
                              have hcz121_0 : w16.cell? ⟨gb154, 0, none⟩ = some (.string x155000_2) := (blk_cell BK154.out 0).trans rfl
                              have hcz121_1 : w16.cell? ⟨gb154, 1, none⟩ = some (.int .i64 x155001_2) := (blk_cell BK154.out 1).trans rfl
                              have hfz121_0 := blk_frozen BK154.out 0
                              have hfz121_1 := blk_frozen BK154.out 1
                              go_wp2_with (first | ((with_reducible refine gate_callee (f := 21) rfl ?_); refine goesL_ (some 84) rfl rfl Try.func21 (by kernel_rfl) rfl #[.agg #[.string x155000_2, .int .i64 x155001_2]] rfl (by (try simp only [List.map_toArray, List.map_cons, List.map_nil]); first | done | rfl | (simp only [List.length_drop, List.length_take]; rfl) | (simp (disch := first | omega | (simp at *; omega)) only [u64_id, i64_id, u8_id]; rfl)) ?_; (with_reducible refine (bosunref02_TakeText.calls k2 x155000_2 x155001_2 t179 t180 t181 _ A105.out).mono ?_); rintro e w122 ⟨rfl, hb⟩; refine ⟨_, rfl, ?_⟩; have n0_ := Aside0.mk (blk_below (g := gb154) (o := .cells #[.string x155000_2, .int .i64 x155001_2] 37 (0, 0)) (by (with_reducible repeat (first | refine blk_drewN ?_ _ | refine blk_drew ?_ | refine blk_alloc ?_ _)); refine blk_far ?_ NB154_157.out _; (with_reducible repeat (first | refine blk_drewN ?_ _ | refine blk_drew ?_ | refine blk_alloc ?_ _)); refine blk_far ?_ NB154_157.out _; (with_reducible repeat (first | refine blk_drewN ?_ _ | refine blk_drew ?_ | refine blk_alloc ?_ _)); exact BK154.out) hb); have n1_ := Aside0.mk (IsS35.below (show IsS35 w ((w16.setCell ⟨gb157, 0, none⟩ (.int .u8 ((rd_T39 l1 x33_2).f0))).setCell ⟨gb157, 1, none⟩ (.int .i64 ((rd_T39 l1 x33_2).f1))) gb153 x154000_2 x154001_2 from by repeat (first | (with_reducible first | exact HI153.out | apply IsS35.alloc | apply IsS35.drewN | apply IsS35.drew | apply IsS35.set_0 | apply IsS35.set_1 | refine IsS35.far ?_ NB153_154.out _ | refine IsS35.far ?_ NB153_157.out _) | exact HI153.out)) hb); have n2_ := Aside0.mk (blk_below (g := gb157) (o := .cells #[.int .u8 ((rd_T39 l1 x33_2).f0), .int .i64 ((rd_T39 l1 x33_2).f1)] 39 (0, 0)) (by (with_reducible repeat (first | refine blk_drewN ?_ _ | refine blk_drew ?_ | refine blk_alloc ?_ _)); refine blk_put (cs := #[.int .u8 ((rd_T39 l1 x33_2).f0), .int .i64 0]) ?_ 1 _ rfl; (with_reducible repeat (first | refine blk_drewN ?_ _ | refine blk_drew ?_ | refine blk_alloc ?_ _)); refine blk_put (cs := #[.int .u8 0, .int .i64 0]) ?_ 0 _ rfl; (with_reducible repeat (first | refine blk_drewN ?_ _ | refine blk_drew ?_ | refine blk_alloc ?_ _)); exact BK157.out) hb); have n3_ := Aside0.mk (below_step (by repeat (first | (with_reducible first | exact HB.out | apply below_alloc | apply pw_below_drewN | apply below_drew1 | refine below_set ?_ (IsS35.ge HI153.out) | refine below_set ?_ GE154.out | refine below_set ?_ GE157.out) | exact HB.out)) hb); clear BK154; clear HI153; clear BK157; clear HB; have BK154 := n0_; have HI153 := n1_; have BK157 := n2_; have HB := n3_; clear n0_ n1_ n2_ n3_; (try clear hb); (try clear hb2); (try clear hk); (try clear hi)) | ((with_reducible refine gate_dst (N := 15) rfl ?_); (try (refine gate_guard (by rfl) ?_; dsimp only)); refine box_event ?hg (N := 15) ?hd (cs := #[.string (⟨#[]⟩ : ByteArray), .int .i64 0]) (t := 37) ?hr ?_; (case hd => rfl); (case hg => rfl); (case hr => first | (go_simp; done) | (go_simp; rfl)); intro gb182 hg w123 hbox hb; have n0_ := Aside0.mk (blk_below (g := gb154) (o := .cells #[.string x155000_2, .int .i64 x155001_2] 37 (0, 0)) (by (with_reducible repeat (first | refine blk_drewN ?_ _ | refine blk_drew ?_ | refine blk_alloc ?_ _)); exact BK154.out) hb); have n1_ := Aside0.mk (IsS35.below (by repeat (first | (with_reducible first | exact HI153.out | apply IsS35.alloc | apply IsS35.drewN | apply IsS35.drew | apply IsS35.set_0 | apply IsS35.set_1 | refine IsS35.far ?_ NB153_154.out _ | refine IsS35.far ?_ NB153_157.out _) | exact HI153.out)) hb); have n2_ := Aside0.mk (blk_below (g := gb157) (o := .cells #[.int .u8 ((rd_T39 l1 x33_2).f0), .int .i64 ((rd_T39 l1 x33_2).f1)] 39 (0, 0)) (by (with_reducible repeat (first | refine blk_drewN ?_ _ | refine blk_drew ?_ | refine blk_alloc ?_ _)); exact BK157.out) hb); have n3_ := Aside0.mk (below_step (by repeat (first | (with_reducible first | exact HB.out | apply below_alloc | apply pw_below_drewN | apply below_drew1 | refine below_set ?_ (IsS35.ge HI153.out) | refine below_set ?_ GE154.out | refine below_set ?_ GE157.out) | exact HB.out)) hb); have n4_ := Aside0.mk (hbox); have n5_ := Aside0.mk ((by rw [hg]; exact (below_size (by repeat (first | (with_reducible first | exact HB.out | apply below_alloc | apply pw_below_drewN | apply below_drew1 | refine below_set ?_ (IsS35.ge HI153.out) | refine below_set ?_ GE154.out | refine below_set ?_ GE157.out) | exact HB.out))) : w.heap.size ≤ gb182)); have n6_ := Aside0.mk ((by rw [hg]; exact (below_size (by repeat (first | (with_reducible first | exact HB.out | apply below_alloc | apply pw_below_drewN | apply below_drew1 | refine below_set ?_ (IsS35.ge HI153.out) | refine below_set ?_ GE154.out | refine below_set ?_ GE157.out) | exact HB.out))) : w.heap.size ≤ gb182)); have n7_ := Aside0.mk ((by rw [hg]; exact Nat.ne_of_lt (blk_lt (g := gb154) (o := .cells #[.string x155000_2, .int .i64 x155001_2] 37 (0, 0)) (by (with_reducible repeat (first | refine blk_drewN ?_ _ | refine blk_drew ?_ | refine blk_alloc ?_ _)); exact BK154.out)) : gb154 ≠ gb182)); have n8_ := Aside0.mk ((by rw [hg]; exact Nat.ne_of_gt (blk_lt (g := gb154) (o := .cells #[.string x155000_2, .int .i64 x155001_2] 37 (0, 0)) (by (with_reducible repeat (first | refine blk_drewN ?_ _ | refine blk_drew ?_ | refine blk_alloc ?_ _)); exact BK154.out)) : gb182 ≠ gb154)); have n9_ := Aside0.mk ((by rw [hg]; exact Nat.ne_of_lt (blk_lt (g := gb157) (o := .cells #[.int .u8 ((rd_T39 l1 x33_2).f0), .int .i64 ((rd_T39 l1 x33_2).f1)] 39 (0, 0)) (by (with_reducible repeat (first | refine blk_drewN ?_ _ | refine blk_drew ?_ | refine blk_alloc ?_ _)); exact BK157.out)) : gb157 ≠ gb182)); have n10_ := Aside0.mk ((by rw [hg]; exact Nat.ne_of_gt (blk_lt (g := gb157) (o := .cells #[.int .u8 ((rd_T39 l1 x33_2).f0), .int .i64 ((rd_T39 l1 x33_2).f1)] 39 (0, 0)) (by (with_reducible repeat (first | refine blk_drewN ?_ _ | refine blk_drew ?_ | refine blk_alloc ?_ _)); exact BK157.out)) : gb182 ≠ gb157)); have n11_ := Aside0.mk ((by rw [hg]; exact Nat.ne_of_lt (IsS35.lt (show IsS35 w _ gb153 x154000_2 x154001_2 from by repeat (first | (with_reducible first | exact HI153.out | apply IsS35.alloc | apply IsS35.drewN | apply IsS35.drew | apply IsS35.set_0 | apply IsS35.set_1 | refine IsS35.far ?_ NB153_154.out _ | refine IsS35.far ?_ NB153_157.out _) | exact HI153.out))) : gb153 ≠ gb182)); have n12_ := Aside0.mk ((by rw [hg]; exact Nat.ne_of_gt (IsS35.lt (show IsS35 w _ gb153 x154000_2 x154001_2 from by repeat (first | (with_reducible first | exact HI153.out | apply IsS35.alloc | apply IsS35.drewN | apply IsS35.drew | apply IsS35.set_0 | apply IsS35.set_1 | refine IsS35.far ?_ NB153_154.out _ | refine IsS35.far ?_ NB153_157.out _) | exact HI153.out))) : gb182 ≠ gb153)); clear BK154; clear HI153; clear BK157; clear HB; have BK154 := n0_; have HI153 := n1_; have BK157 := n2_; have HB := n3_; have BK182 := n4_; have GW182 := n5_; have GE182 := n6_; have NB154_182 := n7_; have NB182_154 := n8_; have NB157_182 := n9_; have NB182_157 := n10_; have NB153_182 := n11_; have NB182_153 := n12_; clear n0_ n1_ n2_ n3_ n4_ n5_ n6_ n7_ n8_ n9_ n10_ n11_ n12_; clear hb hbox hg; have hnb124 := NB182_154.out; have hnc124 := NB154_182.out; have hnb125 := NB182_157.out; have hnc125 := NB157_182.out; have hnb126 := NB182_153.out; have hnc126 := NB153_182.out; have hcz127_0 : w123.cell? ⟨gb182, 0, none⟩ = some (.string (⟨#[]⟩ : ByteArray)) := (blk_cell BK182.out 0).trans rfl; have hcz127_1 : w123.cell? ⟨gb182, 1, none⟩ = some (.int .i64 0) := (blk_cell BK182.out 1).trans rfl; have hfz127_0 := blk_frozen BK182.out 0; have hfz127_1 := blk_frozen BK182.out 1; have hcz128_0 : w123.cell? ⟨gb154, 0, none⟩ = some (.string x155000_2) := (blk_cell BK154.out 0).trans rfl; have hcz128_1 : w123.cell? ⟨gb154, 1, none⟩ = some (.int .i64 x155001_2) := (blk_cell BK154.out 1).trans rfl; have hfz128_0 := blk_frozen BK154.out 0; have hfz128_1 := blk_frozen BK154.out 1) | ((with_reducible refine gate_callee (f := 22) rfl ?_); refine goesL_ (some 89) rfl rfl Try.func22 (by kernel_rfl) rfl #[.pointer (some ⟨gb153, 0, none⟩)] rfl (by (try simp only [List.map_toArray, List.map_cons, List.map_nil]); first | done | rfl | (simp only [List.length_drop, List.length_take]; rfl) | (simp (disch := first | omega | (simp at *; omega)) only [u64_id, i64_id, u8_id]; rfl)) ?_; (with_reducible refine (pack_Taker_Text.calls k2 gb153 x154000_2 x154001_2 t183 t184 t185 w _ ?side1 ?side2 A106.out).mono ?_); (case side1 => repeat (first | (with_reducible first | exact HI153.out | apply IsS35.alloc | apply IsS35.drewN | apply IsS35.drew | apply IsS35.set_0 | apply IsS35.set_1 | refine IsS35.far ?_ NB153_154.out _ | refine IsS35.far ?_ NB153_157.out _ | refine IsS35.far ?_ NB153_182.out _) | exact HI153.out)); (case side2 => repeat (first | (with_reducible first | exact HB.out | apply below_alloc | apply pw_below_drewN | apply below_drew1 | refine below_set ?_ (IsS35.ge HI153.out) | refine below_set ?_ GE154.out | refine below_set ?_ GE157.out | refine below_set ?_ GE182.out) | exact HB.out)); rintro e w129 ⟨rfl, hi, hb, hk⟩; refine ⟨_, rfl, ?_⟩; have n0_ := Aside0.mk (KeepBut.blk hk (g' := gb154) (o := .cells #[.string t179, .int .i64 t180] 37 (0, 0)) (by (with_reducible repeat (first | refine blk_drewN ?_ _ | refine blk_drew ?_ | refine blk_alloc ?_ _)); refine blk_put (cs := #[.string t179, .int .i64 x155001_2]) ?_ 1 _ rfl; (with_reducible repeat (first | refine blk_drewN ?_ _ | refine blk_drew ?_ | refine blk_alloc ?_ _)); refine blk_put (cs := #[.string x155000_2, .int .i64 x155001_2]) ?_ 0 _ rfl; (with_reducible repeat (first | refine blk_drewN ?_ _ | refine blk_drew ?_ | refine blk_alloc ?_ _)); refine blk_far ?_ NB154_182.out _; (with_reducible repeat (first | refine blk_drewN ?_ _ | refine blk_drew ?_ | refine blk_alloc ?_ _)); refine blk_far ?_ NB154_182.out _; (with_reducible repeat (first | refine blk_drewN ?_ _ | refine blk_drew ?_ | refine blk_alloc ?_ _)); exact BK154.out) NB154_153.out (by simp)); have n1_ := Aside0.mk (KeepBut.blk hk (g' := gb157) (o := .cells #[.int .u8 ((rd_T39 l1 x33_2).f0), .int .i64 ((rd_T39 l1 x33_2).f1)] 39 (0, 0)) (by (with_reducible repeat (first | refine blk_drewN ?_ _ | refine blk_drew ?_ | refine blk_alloc ?_ _)); refine blk_far ?_ NB157_154.out _; (with_reducible repeat (first | refine blk_drewN ?_ _ | refine blk_drew ?_ | refine blk_alloc ?_ _)); refine blk_far ?_ NB157_154.out _; (with_reducible repeat (first | refine blk_drewN ?_ _ | refine blk_drew ?_ | refine blk_alloc ?_ _)); refine blk_far ?_ NB157_182.out _; (with_reducible repeat (first | refine blk_drewN ?_ _ | refine blk_drew ?_ | refine blk_alloc ?_ _)); refine blk_far ?_ NB157_182.out _; (with_reducible repeat (first | refine blk_drewN ?_ _ | refine blk_drew ?_ | refine blk_alloc ?_ _)); exact BK157.out) NB157_153.out (by simp)); have n2_ := Aside0.mk (KeepBut.blk hk (g' := gb182) (o := .cells #[.string t179, .int .i64 t180] 37 (0, 0)) (by (with_reducible repeat (first | refine blk_drewN ?_ _ | refine blk_drew ?_ | refine blk_alloc ?_ _)); refine blk_far ?_ NB182_154.out _; (with_reducible repeat (first | refine blk_drewN ?_ _ | refine blk_drew ?_ | refine blk_alloc ?_ _)); refine blk_far ?_ NB182_154.out _; (with_reducible repeat (first | refine blk_drewN ?_ _ | refine blk_drew ?_ | refine blk_alloc ?_ _)); refine blk_put (cs := #[.string t179, .int .i64 0]) ?_ 1 _ rfl; (with_reducible repeat (first | refine blk_drewN ?_ _ | refine blk_drew ?_ | refine blk_alloc ?_ _)); refine blk_put (cs := #[.string (⟨#[]⟩ : ByteArray), .int .i64 0]) ?_ 0 _ rfl; (with_reducible repeat (first | refine blk_drewN ?_ _ | refine blk_drew ?_ | refine blk_alloc ?_ _)); exact BK182.out) NB182_153.out (by simp)); have n3_ := Aside0.mk (hb); have n4_ := Aside0.mk (hi); clear BK154; clear BK157; clear BK182; clear HB; clear HI153; have BK154 := n0_; have BK157 := n1_; have BK182 := n2_; have HB := n3_; have HI153 := n4_; clear n0_ n1_ n2_ n3_ n4_; (try clear hb); (try clear hb2); (try clear hk); (try clear hi)))
                              go_ret
                              exact ⟨by first | rfl | (simp [errW_none, errW_some] <;> rfl) | (simp [*, errW_none, errW_some] <;> rfl), by repeat (first | (with_reducible first | exact HB.out | apply below_alloc | apply pw_below_drewN | apply below_drew1 | refine below_set ?_ (IsS35.ge HI153.out) | refine below_set ?_ GE154.out | refine below_set ?_ GE157.out | refine below_set ?_ GE182.out) | exact HB.out)⟩
                          · rw [if_neg c104] at H
                            have c104b0 : (((rd_T39 l1 x33_2).f0) == 3) = false := beq_eq_false_iff_ne.mpr c104
                            have c104b1 : (((rd_T39 l1 x33_2).f0) != 3) = true := bne_iff_ne.mpr c104
                            have H' := Aside0.mk H
                            clear H
                            go_wp2
                            go_meet
                            case rel => exact ⟨_, (x154000_2), (x154001_2), (x155000_2), (x155001_2), H', ⟨by have := HJ2.out; have := HK2.out; first | omega | exact Nat.le_refl _⟩, ⟨by (with_reducible repeat (first | refine blk_drewN ?_ _ | refine blk_drew ?_ | refine blk_alloc ?_ _)); refine blk_far ?_ NB154_157.out _; (with_reducible repeat (first | refine blk_drewN ?_ _ | refine blk_drew ?_ | refine blk_alloc ?_ _)); refine blk_far ?_ NB154_157.out _; (with_reducible repeat (first | refine blk_drewN ?_ _ | refine blk_drew ?_ | refine blk_alloc ?_ _)); exact BK154.out⟩, ⟨by (with_reducible repeat (first | refine blk_drewN ?_ _ | refine blk_drew ?_ | refine blk_alloc ?_ _)); refine blk_put (cs := #[.int .u8 ((rd_T39 l1 x33_2).f0), .int .i64 0]) ?_ 1 _ rfl; (with_reducible repeat (first | refine blk_drewN ?_ _ | refine blk_drew ?_ | refine blk_alloc ?_ _)); refine blk_put (cs := #[.int .u8 0, .int .i64 0]) ?_ 0 _ rfl; (with_reducible repeat (first | refine blk_drewN ?_ _ | refine blk_drew ?_ | refine blk_alloc ?_ _)); exact BK157.out⟩, ⟨by repeat (first | (with_reducible first | exact HI153.out | apply IsS35.alloc | apply IsS35.drewN | apply IsS35.drew | apply IsS35.set_0 | apply IsS35.set_1 | refine IsS35.far ?_ NB153_154.out _ | refine IsS35.far ?_ NB153_157.out _) | exact HI153.out)⟩, ⟨by repeat (first | (with_reducible first | exact HB.out | apply below_alloc | apply pw_below_drewN | apply below_drew1 | refine below_set ?_ (IsS35.ge HI153.out) | refine below_set ?_ GE154.out | refine below_set ?_ GE157.out) | exact HB.out)⟩⟩
                  case rest =>
                    clear HC15
                    try clear c1
                    try clear p1
                    try clear q1
                    try clear hx1
                    try clear c2
                    try clear p2
                    try clear c3
                    try clear c4
                    try clear c4b0
                    try clear c4b1
                    try clear c5
                    try clear c6
                    try clear p6
                    try clear c7
                    try clear c8
                    try clear c9
                    try clear c10
                    try clear c11
                    try clear c12
                    try clear c12b0
                    try clear c13
                    try clear c13b0
                    try clear c14
                    try clear c14b0
                    try clear p15
                    try clear q15
                    try clear hx15
                    try clear c16
                    try clear c17
                    try clear c18
                    try clear c19
                    try clear c20
                    try clear c20b0
                    try clear c20b1
                    try clear c21
                    try clear c22
                    try clear c23
                    try clear c23b0
                    try clear c23b1
                    try clear c24
                    try clear c25
                    try clear c27
                    try clear c31
                    try clear c32
                    try clear c33
                    try clear c38
                    try clear c39
                    try clear c41
                    try clear c45
                    try clear c46
                    try clear c47
                    try clear c52
                    try clear c52b0
                    try clear c52b1
                    try clear c55
                    try clear c55b0
                    try clear c55b1
                    try clear c56
                    try clear c57
                    try clear c61
                    try clear c62
                    try clear c63
                    try clear p64
                    try clear c67
                    try clear c68
                    try clear c72
                    try clear c73
                    try clear c74
                    try clear c78
                    try clear c78b0
                    try clear c78b1
                    try clear c81
                    try clear c81b0
                    try clear c81b1
                    try clear c81b2
                    try clear c82
                    try clear c83
                    try clear c87
                    try clear c88
                    try clear c89
                    try clear c93
                    try clear c94
                    try clear c98
                    try clear c99
                    try clear c100
                    try clear c104
                    try clear c104b0
                    try clear c104b1
                    try clear c107
                    try clear c107b0
                    try clear c107b1
                    try clear c108
                    try clear c109
                    try clear c113
                    try clear c114
                    try clear c115
                    try clear c119
                    try clear c120
                    try clear c124
                    try clear c125
                    try clear c126
                    try clear hcz101_0
                    try clear hcz101_1
                    try clear hcz102_0
                    try clear hcz102_1
                    try clear hcz110_0
                    try clear hcz110_1
                    try clear hcz116_0
                    try clear hcz116_1
                    try clear hcz117_0
                    try clear hcz117_1
                    try clear hcz11_0
                    try clear hcz11_1
                    try clear hcz121_0
                    try clear hcz121_1
                    try clear hcz127_0
                    try clear hcz127_1
                    try clear hcz128_0
                    try clear hcz128_1
                    try clear hcz19_0
                    try clear hcz19_1
                    try clear hcz26_0
                    try clear hcz26_1
                    try clear hcz28_0
                    try clear hcz28_1
                    try clear hcz34_0
                    try clear hcz34_1
                    try clear hcz35_0
                    try clear hcz35_1
                    try clear hcz36_0
                    try clear hcz36_1
                    try clear hcz40_0
                    try clear hcz40_1
                    try clear hcz42_0
                    try clear hcz42_1
                    try clear hcz48_0
                    try clear hcz48_1
                    try clear hcz49_0
                    try clear hcz49_1
                    try clear hcz50_0
                    try clear hcz50_1
                    try clear hcz58_0
                    try clear hcz58_1
                    try clear hcz64_0
                    try clear hcz64_1
                    try clear hcz65_0
                    try clear hcz65_1
                    try clear hcz69_0
                    try clear hcz69_1
                    try clear hcz75_0
                    try clear hcz75_1
                    try clear hcz76_0
                    try clear hcz76_1
                    try clear hcz84_0
                    try clear hcz84_1
                    try clear hcz90_0
                    try clear hcz90_1
                    try clear hcz91_0
                    try clear hcz91_1
                    try clear hcz95_0
                    try clear hcz95_1
                    try clear hfz101_0
                    try clear hfz101_1
                    try clear hfz102_0
                    try clear hfz102_1
                    try clear hfz110_0
                    try clear hfz110_1
                    try clear hfz116_0
                    try clear hfz116_1
                    try clear hfz117_0
                    try clear hfz117_1
                    try clear hfz11_0
                    try clear hfz11_1
                    try clear hfz121_0
                    try clear hfz121_1
                    try clear hfz127_0
                    try clear hfz127_1
                    try clear hfz128_0
                    try clear hfz128_1
                    try clear hfz19_0
                    try clear hfz19_1
                    try clear hfz26_0
                    try clear hfz26_1
                    try clear hfz28_0
                    try clear hfz28_1
                    try clear hfz34_0
                    try clear hfz34_1
                    try clear hfz35_0
                    try clear hfz35_1
                    try clear hfz36_0
                    try clear hfz36_1
                    try clear hfz40_0
                    try clear hfz40_1
                    try clear hfz42_0
                    try clear hfz42_1
                    try clear hfz48_0
                    try clear hfz48_1
                    try clear hfz49_0
                    try clear hfz49_1
                    try clear hfz50_0
                    try clear hfz50_1
                    try clear hfz58_0
                    try clear hfz58_1
                    try clear hfz64_0
                    try clear hfz64_1
                    try clear hfz65_0
                    try clear hfz65_1
                    try clear hfz69_0
                    try clear hfz69_1
                    try clear hfz75_0
                    try clear hfz75_1
                    try clear hfz76_0
                    try clear hfz76_1
                    try clear hfz84_0
                    try clear hfz84_1
                    try clear hfz90_0
                    try clear hfz90_1
                    try clear hfz91_0
                    try clear hfz91_1
                    try clear hfz95_0
                    try clear hfz95_1
                    try clear hx156_0
                    try clear hx156_1
                    try clear p156
                    try clear p2
                    try clear q156
                    obtain ⟨kq, x154000_14, x154001_14, x155000_14, x155001_14, HA, HJ14, BK154, BK157, HI153, HB⟩ := hcut
                    cases kq with
                    | zero => exact absurd HA.out (by simp [bosunlaw02_PackTakes.j2])
                    | succ kj14 =>
                      have H := HA.out
                      clear HA
                      simp only [bosunlaw02_PackTakes.j2] at H
                      by_cases c130 : x154000_14.toList = x155000_14.toList
                      · rw [if_pos c130] at H
                        have c130b0 : (x154000_14.toList == x155000_14.toList) = true := beq_iff_eq.mpr c130
                        have c130b1 : (x154000_14.toList != x155000_14.toList) = false := bne_eq_false_iff_eq.mpr c130
                        clear c130
                        by_cases c131 : x154001_14 = x155001_14
                        · rw [if_pos c131] at H
                          have c131b0 : (x154001_14 == x155001_14) = true := beq_iff_eq.mpr c131
                          have c131b1 : (x154001_14 != x155001_14) = false := bne_eq_false_iff_eq.mpr c131
                          clear c131
                          replace H := Option.bind_eq_some_iff.mp H
                          obtain ⟨⟨t186, t187, t188⟩, A1320, H⟩ := H
                          replace H : ((bosunref02_End.f x155000_14 x155001_14).bind fun t189 => (if t186 = t189 then (bosunlaw02_PackTakes.l0 kj14 l1 (l1.length : Int) (wrap64 (x33_2 + 1)) t187 t188 x155000_14 x155001_14) else (some false))) = some r := H
                          have kp_t187 : t187 = x154000_14 := (pack_Taker_End.keeps A1320).1
                          have kp_t188 : t188 = x154001_14 := (pack_Taker_End.keeps A1320).2
                          have A132 := Aside0.mk A1320
                          clear A1320
                          replace H := Option.bind_eq_some_iff.mp H
                          obtain ⟨t189, A1330, H⟩ := H
                          replace H : (if t186 = t189 then (bosunlaw02_PackTakes.l0 kj14 l1 (l1.length : Int) (wrap64 (x33_2 + 1)) t187 t188 x155000_14 x155001_14) else (some false)) = some r := H
                          have A133 := Aside0.mk A1330
                          clear A1330
                          by_cases c134 : t186 = t189
                          · rw [if_pos c134] at H
                            have c134b0 : (t186 == t189) = true := beq_iff_eq.mpr c134
                            have c134b1 : (t186 != t189) = false := bne_eq_false_iff_eq.mpr c134
                            clear c134
                            have H' := Aside0.mk H
                            clear H
                            try go_wp2
                            have n0_ := Aside0.mk (blk_drew BK154.out)
                            have n1_ := Aside0.mk (blk_drew BK157.out)
                            have n2_ := Aside0.mk (IsS35.drew HI153.out)
                            have n3_ := Aside0.mk (below_drew1 HB.out)
                            clear BK154
                            clear BK157
                            clear HI153
                            clear HB
                            have BK154 := n0_
                            have BK157 := n1_
                            have HI153 := n2_
                            have HB := n3_
                            clear n0_ n1_ n2_ n3_
                            refine start_ (n := 23) (S := fun w' => w'.cell? ⟨gb153, 0, none⟩ = some (.string x154000_14) ∧ w'.cell? ⟨gb153, 1, none⟩ = some (.int .i64 x154001_14) ∧ w'.cell? ⟨gb154, 0, none⟩ = some (.string x155000_14) ∧ w'.cell? ⟨gb154, 1, none⟩ = some (.int .i64 x155001_14)) (ds := []) #[false, false, false, false, false, false, false, false, false, false, false, false, false, false, false, false, false, false, false, false, false, false, false] (by kernel_rfl) rfl rfl ⟨(blk_cell (Aside0.mk HI153.out.1).out 0).trans (by first | rfl | (rw [kp_t187]; rfl) | (rw [kp_t188]; rfl)), (blk_cell (Aside0.mk HI153.out.1).out 1).trans (by first | rfl | (rw [kp_t187]; rfl) | (rw [kp_t188]; rfl)), (blk_cell BK154.out 0).trans (by first | rfl | (rw [kp_t187]; rfl) | (rw [kp_t188]; rfl)), (blk_cell BK154.out 1).trans (by first | rfl | (rw [kp_t187]; rfl) | (rw [kp_t188]; rfl))⟩ (fun hHeld => ?_); refine with_tabW bosunlaw02_PackTakes.tab29 bosunlaw02_PackTakes.bits29 (fun HT_ HW_ => ?_)
                            generalize wc.drew = w135 at BK154 BK157 HI153 HB hHeld ⊢
                            refine pure_ (i := 0) (N := some 92) (v := ?_) (a' := ?_) #[true, false, false, false, false, false, false, false, false, false, false, false, false, false, false, false, false, false, false, false, false, false, false] rfl rfl (any_of HT_.out (by kernel_rfl)) (fun _ _ _ h => h) (Or.inl ⟨by rfl, ?_⟩) ?_ ?_
                            rotate_left
                            · intro w'
                              go_simp
                              with_reducible rfl
                            rotate_left
                            · simp only [Act.put, List.setIfInBounds_toArray, List.set_cons_zero, List.set_cons_succ, i64_w, i32_w]
                              rfl
                            refine pure_ (i := 1) (N := some 93) (v := ?_) (a' := ?_) #[true, true, false, false, false, false, false, false, false, false, false, false, false, false, false, false, false, false, false, false, false, false, false] rfl rfl (any_of HT_.out (by kernel_rfl)) (fun _ _ _ h => h) (Or.inl ⟨by rfl, ?_⟩) ?_ ?_
                            rotate_left
                            · intro w'
                              go_simp
                              with_reducible rfl
                            rotate_left
                            · simp only [Act.put, List.setIfInBounds_toArray, List.set_cons_zero, List.set_cons_succ, i64_w, i32_w]
                              rfl
                            refine pure_ (i := 2) (N := some 94) (v := ?_) (a' := ?_) #[true, true, true, false, false, false, false, false, false, false, false, false, false, false, false, false, false, false, false, false, false, false, false] rfl rfl (any_of HT_.out (by kernel_rfl)) (fun _ _ _ h => h) (Or.inl ⟨by rfl, ?_⟩) ?_ ?_
                            rotate_left
                            · intro w'
                              go_simp
                              with_reducible rfl
                            rotate_left
                            · simp only [Act.put, List.setIfInBounds_toArray, List.set_cons_zero, List.set_cons_succ, i64_w, i32_w]
                              rfl
                            refine pure_ (i := 4) (N := some 96) (v := ?_) (a' := ?_) #[true, true, true, false, true, false, false, false, false, false, false, false, false, false, false, false, false, false, false, false, false, false, false] rfl rfl (any_of HT_.out (by kernel_rfl)) (fun _ _ _ h => h) (Or.inl ⟨by rfl, ?_⟩) ?_ ?_
                            rotate_left
                            · intro w'
                              go_simp
                              with_reducible rfl
                            rotate_left
                            · simp only [Act.put, List.setIfInBounds_toArray, List.set_cons_zero, List.set_cons_succ, i64_w, i32_w]
                              rfl
                            refine take_ (i := 3) (N := some 95) (v := ?_) (a' := ?_) #[true, true, true, true, true, false, false, false, false, false, false, false, false, false, false, false, false, false, false, false, false, false, false] rfl rfl (take_ofW HT_.out HW_.out (by kernel_rfl)) (fun _ _ _ h => h) (Or.inl ⟨by rfl, ?_⟩) hHeld ?_ ?_
                            rotate_left
                            · rintro w' ⟨s0, s1, s2, s3⟩
                              go_simp
                              with_reducible rfl
                            rotate_left
                            · simp only [Act.put, List.setIfInBounds_toArray, List.set_cons_zero, List.set_cons_succ, i64_w, i32_w]
                              rfl
                            refine take_ (i := 5) (N := some 97) (v := ?_) (a' := ?_) #[true, true, true, true, true, true, false, false, false, false, false, false, false, false, false, false, false, false, false, false, false, false, false] rfl rfl (take_ofW HT_.out HW_.out (by kernel_rfl)) (fun _ _ _ h => h) (Or.inl ⟨by rfl, ?_⟩) hHeld ?_ ?_
                            rotate_left
                            · rintro w' ⟨s0, s1, s2, s3⟩
                              go_simp
                              with_reducible rfl
                            rotate_left
                            · simp only [Act.put, List.setIfInBounds_toArray, List.set_cons_zero, List.set_cons_succ, i64_w, i32_w]
                              rfl
                            refine pure_ (i := 6) (N := some 98) (v := ?_) (a' := ?_) #[true, true, true, true, true, true, true, false, false, false, false, false, false, false, false, false, false, false, false, false, false, false, false] rfl rfl (any_of HT_.out (by kernel_rfl)) (fun _ _ _ h => h) (Or.inl ⟨by rfl, ?_⟩) ?_ ?_
                            rotate_left
                            · intro w'
                              go_simp
                              with_reducible rfl
                            rotate_left
                            · simp only [Act.put, List.setIfInBounds_toArray, List.set_cons_zero, List.set_cons_succ, i64_w, i32_w]
                              rfl
                            refine pure_ (i := 7) (N := some 99) (v := ?_) (a' := ?_) #[true, true, true, true, true, true, true, true, false, false, false, false, false, false, false, false, false, false, false, false, false, false, false] rfl rfl (any_of HT_.out (by kernel_rfl)) (fun _ _ _ h => h) (Or.inl ⟨by rfl, ?_⟩) ?_ ?_
                            rotate_left
                            · intro w'
                              go_simp
                              with_reducible rfl
                            rotate_left
                            · simp only [Act.put, List.setIfInBounds_toArray, List.set_cons_zero, List.set_cons_succ, i64_w, i32_w]
                              rfl
                            refine pure_ (i := 8) (N := some 100) (v := ?_) (a' := ?_) #[true, true, true, true, true, true, true, true, true, false, false, false, false, false, false, false, false, false, false, false, false, false, false] rfl rfl (any_of HT_.out (by kernel_rfl)) (fun _ _ _ h => h) (Or.inl ⟨by rfl, ?_⟩) ?_ ?_
                            rotate_left
                            · intro w'
                              go_simp
                              with_reducible rfl
                            rotate_left
                            · simp only [Act.put, List.setIfInBounds_toArray, List.set_cons_zero, List.set_cons_succ, i64_w, i32_w]
                              rfl
                            refine pure_ (i := 9) (N := some 101) (v := ?_) (a' := ?_) #[true, true, true, true, true, true, true, true, true, true, false, false, false, false, false, false, false, false, false, false, false, false, false] rfl rfl (any_of HT_.out (by kernel_rfl)) (fun _ _ _ h => h) (Or.inl ⟨by rfl, ?_⟩) ?_ ?_
                            rotate_left
                            · intro w'
                              go_simp
                              with_reducible rfl
                            rotate_left
                            · simp only [Act.put, List.setIfInBounds_toArray, List.set_cons_zero, List.set_cons_succ, i64_w, i32_w]
                              rfl
                            refine pure_ (i := 10) (N := some 102) (v := ?_) (a' := ?_) #[true, true, true, true, true, true, true, true, true, true, true, false, false, false, false, false, false, false, false, false, false, false, false] rfl rfl (any_of HT_.out (by kernel_rfl)) (fun _ _ _ h => h) (Or.inl ⟨by rfl, ?_⟩) ?_ ?_
                            rotate_left
                            · intro w'
                              go_simp
                              with_reducible rfl
                            rotate_left
                            · simp only [Act.put, List.setIfInBounds_toArray, List.set_cons_zero, List.set_cons_succ, i64_w, i32_w]
                              rfl
                            refine pure_ (i := 12) (N := some 104) (v := ?_) (a' := ?_) #[true, true, true, true, true, true, true, true, true, true, true, false, true, false, false, false, false, false, false, false, false, false, false] rfl rfl (any_of HT_.out (by kernel_rfl)) (fun _ _ _ h => h) (Or.inl ⟨by rfl, ?_⟩) ?_ ?_
                            rotate_left
                            · intro w'
                              go_simp
                              with_reducible rfl
                            rotate_left
                            · simp only [Act.put, List.setIfInBounds_toArray, List.set_cons_zero, List.set_cons_succ, i64_w, i32_w]
                              rfl
                            refine take_ (i := 11) (N := some 103) (v := ?_) (a' := ?_) #[true, true, true, true, true, true, true, true, true, true, true, true, true, false, false, false, false, false, false, false, false, false, false] rfl rfl (take_ofW HT_.out HW_.out (by kernel_rfl)) (fun _ _ _ h => h) (Or.inl ⟨by rfl, ?_⟩) hHeld ?_ ?_
                            rotate_left
                            · rintro w' ⟨s0, s1, s2, s3⟩
                              go_simp
                              with_reducible rfl
                            rotate_left
                            · simp only [Act.put, List.setIfInBounds_toArray, List.set_cons_zero, List.set_cons_succ, i64_w, i32_w]
                              rfl
                            refine take_ (i := 13) (N := some 105) (v := ?_) (a' := ?_) #[true, true, true, true, true, true, true, true, true, true, true, true, true, true, false, false, false, false, false, false, false, false, false] rfl rfl (take_ofW HT_.out HW_.out (by kernel_rfl)) (fun _ _ _ h => h) (Or.inl ⟨by rfl, ?_⟩) hHeld ?_ ?_
                            rotate_left
                            · rintro w' ⟨s0, s1, s2, s3⟩
                              go_simp
                              with_reducible rfl
                            rotate_left
                            · simp only [Act.put, List.setIfInBounds_toArray, List.set_cons_zero, List.set_cons_succ, i64_w, i32_w]
                              rfl
                            refine pure_ (i := 14) (N := some 106) (v := ?_) (a' := ?_) #[true, true, true, true, true, true, true, true, true, true, true, true, true, true, true, false, false, false, false, false, false, false, false] rfl rfl (any_of HT_.out (by kernel_rfl)) (fun _ _ _ h => h) (Or.inl ⟨by rfl, ?_⟩) ?_ ?_
                            rotate_left
                            · intro w'
                              go_simp
                              with_reducible rfl
                            rotate_left
                            · simp only [Act.put, List.setIfInBounds_toArray, List.set_cons_zero, List.set_cons_succ, i64_w, i32_w]
                              rfl
                            refine pure_ (i := 15) (N := some 107) (v := ?_) (a' := ?_) #[true, true, true, true, true, true, true, true, true, true, true, true, true, true, true, true, false, false, false, false, false, false, false] rfl rfl (any_of HT_.out (by kernel_rfl)) (fun _ _ _ h => h) (Or.inl ⟨by rfl, ?_⟩) ?_ ?_
                            rotate_left
                            · intro w'
                              go_simp
                              with_reducible rfl
                            rotate_left
                            · simp only [Act.put, List.setIfInBounds_toArray, List.set_cons_zero, List.set_cons_succ, i64_w, i32_w]
                              rfl
                            refine pure_ (i := 16) (N := some 108) (v := ?_) (a' := ?_) #[true, true, true, true, true, true, true, true, true, true, true, true, true, true, true, true, true, false, false, false, false, false, false] rfl rfl (any_of HT_.out (by kernel_rfl)) (fun _ _ _ h => h) (Or.inl ⟨by rfl, ?_⟩) ?_ ?_
                            rotate_left
                            · intro w'
                              go_simp
                              with_reducible rfl
                            rotate_left
                            · simp only [Act.put, List.setIfInBounds_toArray, List.set_cons_zero, List.set_cons_succ, i64_w, i32_w]
                              rfl
                            refine pure_ (i := 17) (N := some 109) (v := ?_) (a' := ?_) #[true, true, true, true, true, true, true, true, true, true, true, true, true, true, true, true, true, true, false, false, false, false, false] rfl rfl (any_of HT_.out (by kernel_rfl)) (fun _ _ _ h => h) (Or.inl ⟨by rfl, ?_⟩) ?_ ?_
                            rotate_left
                            · intro w'
                              go_simp
                              with_reducible rfl
                            rotate_left
                            · simp only [Act.put, List.setIfInBounds_toArray, List.set_cons_zero, List.set_cons_succ, i64_w, i32_w]
                              rfl
                            refine take_ (i := 19) (N := some 111) (v := ?_) (a' := ?_) #[true, true, true, true, true, true, true, true, true, true, true, true, true, true, true, true, true, true, false, true, false, false, false] rfl rfl (take_ofW HT_.out HW_.out (by kernel_rfl)) (fun _ _ _ h => h) (Or.inl ⟨by rfl, ?_⟩) hHeld ?_ ?_
                            rotate_left
                            · rintro w' ⟨s0, s1, s2, s3⟩
                              go_simp
                              with_reducible rfl
                            rotate_left
                            · simp only [Act.put, List.setIfInBounds_toArray, List.set_cons_zero, List.set_cons_succ, i64_w, i32_w]
                              rfl
                            refine one_ (i := 18) (N := some 110) #[true, true, true, true, true, true, true, true, true, true, true, true, true, true, true, true, true, true, true, true, false, false, false] rfl rfl (one_of HT_.out (by kernel_rfl)) (by decide) (fun K hK => ?_)
                            refine goes_ Try.func23 (by kernel_rfl) rfl #[.pointer (some ⟨gb153, 0, none⟩)] (by rfl) rfl rfl (by (try simp only [List.map_toArray, List.map_cons, List.map_nil]); first | done | rfl | (simp only [List.length_drop, List.length_take]; rfl)) ?_
                            with_reducible refine (pack_Taker_End.calls gb153 x154000_14 x154001_14 t186 t187 t188 w _ ?side1 ?side2 A132.out).mono ?_
                            (case side1 => repeat (first | (with_reducible first | exact HI153.out | apply IsS35.alloc | apply IsS35.drewN | apply IsS35.drew | apply IsS35.set_0 | apply IsS35.set_1 | refine IsS35.far ?_ NB153_154.out _ | refine IsS35.far ?_ NB153_157.out _) | exact HI153.out))
                            (case side2 => repeat (first | (with_reducible first | exact HB.out | apply below_alloc | apply pw_below_drewN | apply below_drew1 | refine below_set ?_ (IsS35.ge HI153.out) | refine below_set ?_ GE154.out | refine below_set ?_ GE157.out) | exact HB.out))
                            rintro e w136 ⟨rfl, hi, hb, hk⟩
                            refine ⟨_, rfl, ?_⟩
                            have n0_ := Aside0.mk (KeepBut.blk hk (g' := gb154) (o := .cells #[.string x155000_14, .int .i64 x155001_14] 37 (0, 0)) (by (with_reducible repeat (first | refine blk_drewN ?_ _ | refine blk_drew ?_ | refine blk_alloc ?_ _)); exact BK154.out) NB154_153.out (by simp))
                            have n1_ := Aside0.mk (KeepBut.blk hk (g' := gb157) (o := .cells #[.int .u8 ((rd_T39 l1 x33_2).f0), .int .i64 ((rd_T39 l1 x33_2).f1)] 39 (0, 0)) (by (with_reducible repeat (first | refine blk_drewN ?_ _ | refine blk_drew ?_ | refine blk_alloc ?_ _)); exact BK157.out) NB157_153.out (by simp))
                            have n2_ := Aside0.mk (hb)
                            have n3_ := Aside0.mk (hi)
                            clear BK154
                            clear BK157
                            clear HB
                            clear HI153
                            have BK154 := n0_
                            have BK157 := n1_
                            have HB := n2_
                            have HI153 := n3_
                            clear n0_ n1_ n2_ n3_
                            (try clear hb)
                            (try clear hb2)
                            (try clear hk)
                            (try clear hi)
                            refine hK.out _ _ ⟨(blk_cell (Aside0.mk HI153.out.1).out 0).trans (by first | rfl | (rw [kp_t187]; rfl) | (rw [kp_t188]; rfl)), (blk_cell (Aside0.mk HI153.out.1).out 1).trans (by first | rfl | (rw [kp_t187]; rfl) | (rw [kp_t188]; rfl)), (blk_cell BK154.out 0).trans (by first | rfl | (rw [kp_t187]; rfl) | (rw [kp_t188]; rfl)), (blk_cell BK154.out 1).trans (by first | rfl | (rw [kp_t187]; rfl) | (rw [kp_t188]; rfl))⟩ (fun hHeld => ?_)
                            clear hK K
                            refine norm_ (a' := ?_) ?_ ?_
                            rotate_left
                            · show Act.put _ (some 110) _ = _
                              simp only [Act.put, List.setIfInBounds_toArray, List.set_cons_zero, List.set_cons_succ, i64_w, i32_w]
                              rfl
                            refine one_ (i := 20) (N := some 112) #[true, true, true, true, true, true, true, true, true, true, true, true, true, true, true, true, true, true, true, true, true, false, false] rfl rfl (one_of HT_.out (by kernel_rfl)) (by decide) (fun K hK => ?_)
                            refine goes_ Try.func24 (by kernel_rfl) rfl #[.agg #[.string x155000_14, .int .i64 x155001_14]] (by rfl) rfl rfl (by (try simp only [List.map_toArray, List.map_cons, List.map_nil]); first | done | rfl | (simp only [List.length_drop, List.length_take]; rfl)) ?_
                            with_reducible refine (bosunref02_End.calls x155000_14 x155001_14 t189 _ A133.out).mono ?_
                            rintro e w137 ⟨rfl, hb⟩
                            refine ⟨_, rfl, ?_⟩
                            have n0_ := Aside0.mk (blk_below (g := gb154) (o := .cells #[.string x155000_14, .int .i64 x155001_14] 37 (0, 0)) (by (with_reducible repeat (first | refine blk_drewN ?_ _ | refine blk_drew ?_ | refine blk_alloc ?_ _)); exact BK154.out) hb)
                            have n1_ := Aside0.mk (blk_below (g := gb157) (o := .cells #[.int .u8 ((rd_T39 l1 x33_2).f0), .int .i64 ((rd_T39 l1 x33_2).f1)] 39 (0, 0)) (by (with_reducible repeat (first | refine blk_drewN ?_ _ | refine blk_drew ?_ | refine blk_alloc ?_ _)); exact BK157.out) hb)
                            have n2_ := Aside0.mk (IsS35.below (by repeat (first | (with_reducible first | exact HI153.out | apply IsS35.alloc | apply IsS35.drewN | apply IsS35.drew | apply IsS35.set_0 | apply IsS35.set_1 | refine IsS35.far ?_ NB153_154.out _ | refine IsS35.far ?_ NB153_157.out _) | exact HI153.out)) hb)
                            have n3_ := Aside0.mk (below_step (by repeat (first | (with_reducible first | exact HB.out | apply below_alloc | apply pw_below_drewN | apply below_drew1 | refine below_set ?_ (IsS35.ge HI153.out) | refine below_set ?_ GE154.out | refine below_set ?_ GE157.out) | exact HB.out)) hb)
                            clear BK154
                            clear BK157
                            clear HI153
                            clear HB
                            have BK154 := n0_
                            have BK157 := n1_
                            have HI153 := n2_
                            have HB := n3_
                            clear n0_ n1_ n2_ n3_
                            (try clear hb)
                            (try clear hb2)
                            (try clear hk)
                            (try clear hi)
                            refine hK.out _ _ ⟨(blk_cell (Aside0.mk HI153.out.1).out 0).trans (by first | rfl | (rw [kp_t187]; rfl) | (rw [kp_t188]; rfl)), (blk_cell (Aside0.mk HI153.out.1).out 1).trans (by first | rfl | (rw [kp_t187]; rfl) | (rw [kp_t188]; rfl)), (blk_cell BK154.out 0).trans (by first | rfl | (rw [kp_t187]; rfl) | (rw [kp_t188]; rfl)), (blk_cell BK154.out 1).trans (by first | rfl | (rw [kp_t187]; rfl) | (rw [kp_t188]; rfl))⟩ (fun hHeld => ?_)
                            clear hK K
                            refine norm_ (a' := ?_) ?_ ?_
                            rotate_left
                            · show Act.put _ (some 112) _ = _
                              simp only [Act.put, List.setIfInBounds_toArray, List.set_cons_zero, List.set_cons_succ, i64_w, i32_w]
                              rfl
                            refine pure_ (i := 21) (N := some 113) (v := ?_) (a' := ?_) #[true, true, true, true, true, true, true, true, true, true, true, true, true, true, true, true, true, true, true, true, true, true, false] rfl rfl (any_of HT_.out (by kernel_rfl)) (fun _ _ _ h => h) (Or.inl ⟨by rfl, ?_⟩) ?_ ?_
                            rotate_left
                            · intro w'
                              go_simp
                              with_reducible rfl
                            rotate_left
                            · simp only [Act.put, List.setIfInBounds_toArray, List.set_cons_zero, List.set_cons_succ, i64_w, i32_w]
                              rfl
                            refine pure_ (i := 22) (N := some 114) (v := ?_) (a' := ?_) #[true, true, true, true, true, true, true, true, true, true, true, true, true, true, true, true, true, true, true, true, true, true, true] rfl rfl (any_of HT_.out (by kernel_rfl)) (fun _ _ _ h => h) (Or.inl ⟨by rfl, ?_⟩) ?_ ?_
                            rotate_left
                            · intro w'
                              go_simp
                              with_reducible rfl
                            rotate_left
                            · simp only [Act.put, List.setIfInBounds_toArray, List.set_cons_zero, List.set_cons_succ, i64_w, i32_w]
                              rfl
                            refine done_ (done_of HT_.out (by kernel_rfl)) ?_
                            try go_wp2
                            go_roundg kj14
                            case measure => have := HJ2.out; have := HK2.out; have := HJ14.out; omega
                            case rel => exact ⟨(wrap64 (x33_2 + 1)), (t187), (t188), (x155000_14), (x155001_14), (by first | rfl | (simp; done) | (simp [*]; done)), H', ⟨by have := HJ2.out; have := HK2.out; have := HJ14.out; omega⟩, ⟨by (with_reducible repeat (first | refine blk_drewN ?_ _ | refine blk_drew ?_ | refine blk_alloc ?_ _)); exact BK154.out⟩, ⟨by repeat (first | (with_reducible first | exact HI153.out | apply IsS35.alloc | apply IsS35.drewN | apply IsS35.drew | apply IsS35.set_0 | apply IsS35.set_1 | refine IsS35.far ?_ NB153_154.out _ | refine IsS35.far ?_ NB153_157.out _) | exact HI153.out)⟩, ⟨by repeat (first | (with_reducible first | exact HB.out | apply below_alloc | apply pw_below_drewN | apply below_drew1 | refine below_set ?_ (IsS35.ge HI153.out) | refine below_set ?_ GE154.out | refine below_set ?_ GE157.out) | exact HB.out)⟩⟩
                          · rw [if_neg c134] at H
                            have c134b0 : (t186 == t189) = false := beq_eq_false_iff_ne.mpr c134
                            have c134b1 : (t186 != t189) = true := bne_iff_ne.mpr c134
                            obtain rfl := Option.some.inj H
                            try go_wp2
                            have n0_ := Aside0.mk (blk_drew BK154.out)
                            have n1_ := Aside0.mk (blk_drew BK157.out)
                            have n2_ := Aside0.mk (IsS35.drew HI153.out)
                            have n3_ := Aside0.mk (below_drew1 HB.out)
                            clear BK154
                            clear BK157
                            clear HI153
                            clear HB
                            have BK154 := n0_
                            have BK157 := n1_
                            have HI153 := n2_
                            have HB := n3_
                            clear n0_ n1_ n2_ n3_
                            refine start_ (n := 23) (S := fun w' => w'.cell? ⟨gb153, 0, none⟩ = some (.string x154000_14) ∧ w'.cell? ⟨gb153, 1, none⟩ = some (.int .i64 x154001_14) ∧ w'.cell? ⟨gb154, 0, none⟩ = some (.string x155000_14) ∧ w'.cell? ⟨gb154, 1, none⟩ = some (.int .i64 x155001_14)) (ds := []) #[false, false, false, false, false, false, false, false, false, false, false, false, false, false, false, false, false, false, false, false, false, false, false] (by kernel_rfl) rfl rfl ⟨(blk_cell (Aside0.mk HI153.out.1).out 0).trans (by first | rfl | (rw [kp_t187]; rfl) | (rw [kp_t188]; rfl)), (blk_cell (Aside0.mk HI153.out.1).out 1).trans (by first | rfl | (rw [kp_t187]; rfl) | (rw [kp_t188]; rfl)), (blk_cell BK154.out 0).trans (by first | rfl | (rw [kp_t187]; rfl) | (rw [kp_t188]; rfl)), (blk_cell BK154.out 1).trans (by first | rfl | (rw [kp_t187]; rfl) | (rw [kp_t188]; rfl))⟩ (fun hHeld => ?_); refine with_tabW bosunlaw02_PackTakes.tab29 bosunlaw02_PackTakes.bits29 (fun HT_ HW_ => ?_)
                            generalize wc.drew = w138 at BK154 BK157 HI153 HB hHeld ⊢
                            refine pure_ (i := 0) (N := some 92) (v := ?_) (a' := ?_) #[true, false, false, false, false, false, false, false, false, false, false, false, false, false, false, false, false, false, false, false, false, false, false] rfl rfl (any_of HT_.out (by kernel_rfl)) (fun _ _ _ h => h) (Or.inl ⟨by rfl, ?_⟩) ?_ ?_
                            rotate_left
                            · intro w'
                              go_simp
                              with_reducible rfl
                            rotate_left
                            · simp only [Act.put, List.setIfInBounds_toArray, List.set_cons_zero, List.set_cons_succ, i64_w, i32_w]
                              rfl
                            refine pure_ (i := 1) (N := some 93) (v := ?_) (a' := ?_) #[true, true, false, false, false, false, false, false, false, false, false, false, false, false, false, false, false, false, false, false, false, false, false] rfl rfl (any_of HT_.out (by kernel_rfl)) (fun _ _ _ h => h) (Or.inl ⟨by rfl, ?_⟩) ?_ ?_
                            rotate_left
                            · intro w'
                              go_simp
                              with_reducible rfl
                            rotate_left
                            · simp only [Act.put, List.setIfInBounds_toArray, List.set_cons_zero, List.set_cons_succ, i64_w, i32_w]
                              rfl
                            refine pure_ (i := 2) (N := some 94) (v := ?_) (a' := ?_) #[true, true, true, false, false, false, false, false, false, false, false, false, false, false, false, false, false, false, false, false, false, false, false] rfl rfl (any_of HT_.out (by kernel_rfl)) (fun _ _ _ h => h) (Or.inl ⟨by rfl, ?_⟩) ?_ ?_
                            rotate_left
                            · intro w'
                              go_simp
                              with_reducible rfl
                            rotate_left
                            · simp only [Act.put, List.setIfInBounds_toArray, List.set_cons_zero, List.set_cons_succ, i64_w, i32_w]
                              rfl
                            refine pure_ (i := 4) (N := some 96) (v := ?_) (a' := ?_) #[true, true, true, false, true, false, false, false, false, false, false, false, false, false, false, false, false, false, false, false, false, false, false] rfl rfl (any_of HT_.out (by kernel_rfl)) (fun _ _ _ h => h) (Or.inl ⟨by rfl, ?_⟩) ?_ ?_
                            rotate_left
                            · intro w'
                              go_simp
                              with_reducible rfl
                            rotate_left
                            · simp only [Act.put, List.setIfInBounds_toArray, List.set_cons_zero, List.set_cons_succ, i64_w, i32_w]
                              rfl
                            refine take_ (i := 3) (N := some 95) (v := ?_) (a' := ?_) #[true, true, true, true, true, false, false, false, false, false, false, false, false, false, false, false, false, false, false, false, false, false, false] rfl rfl (take_ofW HT_.out HW_.out (by kernel_rfl)) (fun _ _ _ h => h) (Or.inl ⟨by rfl, ?_⟩) hHeld ?_ ?_
                            rotate_left
                            · rintro w' ⟨s0, s1, s2, s3⟩
                              go_simp
                              with_reducible rfl
                            rotate_left
                            · simp only [Act.put, List.setIfInBounds_toArray, List.set_cons_zero, List.set_cons_succ, i64_w, i32_w]
                              rfl
                            refine take_ (i := 5) (N := some 97) (v := ?_) (a' := ?_) #[true, true, true, true, true, true, false, false, false, false, false, false, false, false, false, false, false, false, false, false, false, false, false] rfl rfl (take_ofW HT_.out HW_.out (by kernel_rfl)) (fun _ _ _ h => h) (Or.inl ⟨by rfl, ?_⟩) hHeld ?_ ?_
                            rotate_left
                            · rintro w' ⟨s0, s1, s2, s3⟩
                              go_simp
                              with_reducible rfl
                            rotate_left
                            · simp only [Act.put, List.setIfInBounds_toArray, List.set_cons_zero, List.set_cons_succ, i64_w, i32_w]
                              rfl
                            refine pure_ (i := 6) (N := some 98) (v := ?_) (a' := ?_) #[true, true, true, true, true, true, true, false, false, false, false, false, false, false, false, false, false, false, false, false, false, false, false] rfl rfl (any_of HT_.out (by kernel_rfl)) (fun _ _ _ h => h) (Or.inl ⟨by rfl, ?_⟩) ?_ ?_
                            rotate_left
                            · intro w'
                              go_simp
                              with_reducible rfl
                            rotate_left
                            · simp only [Act.put, List.setIfInBounds_toArray, List.set_cons_zero, List.set_cons_succ, i64_w, i32_w]
                              rfl
                            refine pure_ (i := 7) (N := some 99) (v := ?_) (a' := ?_) #[true, true, true, true, true, true, true, true, false, false, false, false, false, false, false, false, false, false, false, false, false, false, false] rfl rfl (any_of HT_.out (by kernel_rfl)) (fun _ _ _ h => h) (Or.inl ⟨by rfl, ?_⟩) ?_ ?_
                            rotate_left
                            · intro w'
                              go_simp
                              with_reducible rfl
                            rotate_left
                            · simp only [Act.put, List.setIfInBounds_toArray, List.set_cons_zero, List.set_cons_succ, i64_w, i32_w]
                              rfl
                            refine pure_ (i := 8) (N := some 100) (v := ?_) (a' := ?_) #[true, true, true, true, true, true, true, true, true, false, false, false, false, false, false, false, false, false, false, false, false, false, false] rfl rfl (any_of HT_.out (by kernel_rfl)) (fun _ _ _ h => h) (Or.inl ⟨by rfl, ?_⟩) ?_ ?_
                            rotate_left
                            · intro w'
                              go_simp
                              with_reducible rfl
                            rotate_left
                            · simp only [Act.put, List.setIfInBounds_toArray, List.set_cons_zero, List.set_cons_succ, i64_w, i32_w]
                              rfl
                            refine pure_ (i := 9) (N := some 101) (v := ?_) (a' := ?_) #[true, true, true, true, true, true, true, true, true, true, false, false, false, false, false, false, false, false, false, false, false, false, false] rfl rfl (any_of HT_.out (by kernel_rfl)) (fun _ _ _ h => h) (Or.inl ⟨by rfl, ?_⟩) ?_ ?_
                            rotate_left
                            · intro w'
                              go_simp
                              with_reducible rfl
                            rotate_left
                            · simp only [Act.put, List.setIfInBounds_toArray, List.set_cons_zero, List.set_cons_succ, i64_w, i32_w]
                              rfl
                            refine pure_ (i := 10) (N := some 102) (v := ?_) (a' := ?_) #[true, true, true, true, true, true, true, true, true, true, true, false, false, false, false, false, false, false, false, false, false, false, false] rfl rfl (any_of HT_.out (by kernel_rfl)) (fun _ _ _ h => h) (Or.inl ⟨by rfl, ?_⟩) ?_ ?_
                            rotate_left
                            · intro w'
                              go_simp
                              with_reducible rfl
                            rotate_left
                            · simp only [Act.put, List.setIfInBounds_toArray, List.set_cons_zero, List.set_cons_succ, i64_w, i32_w]
                              rfl
                            refine pure_ (i := 12) (N := some 104) (v := ?_) (a' := ?_) #[true, true, true, true, true, true, true, true, true, true, true, false, true, false, false, false, false, false, false, false, false, false, false] rfl rfl (any_of HT_.out (by kernel_rfl)) (fun _ _ _ h => h) (Or.inl ⟨by rfl, ?_⟩) ?_ ?_
                            rotate_left
                            · intro w'
                              go_simp
                              with_reducible rfl
                            rotate_left
                            · simp only [Act.put, List.setIfInBounds_toArray, List.set_cons_zero, List.set_cons_succ, i64_w, i32_w]
                              rfl
                            refine take_ (i := 11) (N := some 103) (v := ?_) (a' := ?_) #[true, true, true, true, true, true, true, true, true, true, true, true, true, false, false, false, false, false, false, false, false, false, false] rfl rfl (take_ofW HT_.out HW_.out (by kernel_rfl)) (fun _ _ _ h => h) (Or.inl ⟨by rfl, ?_⟩) hHeld ?_ ?_
                            rotate_left
                            · rintro w' ⟨s0, s1, s2, s3⟩
                              go_simp
                              with_reducible rfl
                            rotate_left
                            · simp only [Act.put, List.setIfInBounds_toArray, List.set_cons_zero, List.set_cons_succ, i64_w, i32_w]
                              rfl
                            refine take_ (i := 13) (N := some 105) (v := ?_) (a' := ?_) #[true, true, true, true, true, true, true, true, true, true, true, true, true, true, false, false, false, false, false, false, false, false, false] rfl rfl (take_ofW HT_.out HW_.out (by kernel_rfl)) (fun _ _ _ h => h) (Or.inl ⟨by rfl, ?_⟩) hHeld ?_ ?_
                            rotate_left
                            · rintro w' ⟨s0, s1, s2, s3⟩
                              go_simp
                              with_reducible rfl
                            rotate_left
                            · simp only [Act.put, List.setIfInBounds_toArray, List.set_cons_zero, List.set_cons_succ, i64_w, i32_w]
                              rfl
                            refine pure_ (i := 14) (N := some 106) (v := ?_) (a' := ?_) #[true, true, true, true, true, true, true, true, true, true, true, true, true, true, true, false, false, false, false, false, false, false, false] rfl rfl (any_of HT_.out (by kernel_rfl)) (fun _ _ _ h => h) (Or.inl ⟨by rfl, ?_⟩) ?_ ?_
                            rotate_left
                            · intro w'
                              go_simp
                              with_reducible rfl
                            rotate_left
                            · simp only [Act.put, List.setIfInBounds_toArray, List.set_cons_zero, List.set_cons_succ, i64_w, i32_w]
                              rfl
                            refine pure_ (i := 15) (N := some 107) (v := ?_) (a' := ?_) #[true, true, true, true, true, true, true, true, true, true, true, true, true, true, true, true, false, false, false, false, false, false, false] rfl rfl (any_of HT_.out (by kernel_rfl)) (fun _ _ _ h => h) (Or.inl ⟨by rfl, ?_⟩) ?_ ?_
                            rotate_left
                            · intro w'
                              go_simp
                              with_reducible rfl
                            rotate_left
                            · simp only [Act.put, List.setIfInBounds_toArray, List.set_cons_zero, List.set_cons_succ, i64_w, i32_w]
                              rfl
                            refine pure_ (i := 16) (N := some 108) (v := ?_) (a' := ?_) #[true, true, true, true, true, true, true, true, true, true, true, true, true, true, true, true, true, false, false, false, false, false, false] rfl rfl (any_of HT_.out (by kernel_rfl)) (fun _ _ _ h => h) (Or.inl ⟨by rfl, ?_⟩) ?_ ?_
                            rotate_left
                            · intro w'
                              go_simp
                              with_reducible rfl
                            rotate_left
                            · simp only [Act.put, List.setIfInBounds_toArray, List.set_cons_zero, List.set_cons_succ, i64_w, i32_w]
                              rfl
                            refine pure_ (i := 17) (N := some 109) (v := ?_) (a' := ?_) #[true, true, true, true, true, true, true, true, true, true, true, true, true, true, true, true, true, true, false, false, false, false, false] rfl rfl (any_of HT_.out (by kernel_rfl)) (fun _ _ _ h => h) (Or.inl ⟨by rfl, ?_⟩) ?_ ?_
                            rotate_left
                            · intro w'
                              go_simp
                              with_reducible rfl
                            rotate_left
                            · simp only [Act.put, List.setIfInBounds_toArray, List.set_cons_zero, List.set_cons_succ, i64_w, i32_w]
                              rfl
                            refine take_ (i := 19) (N := some 111) (v := ?_) (a' := ?_) #[true, true, true, true, true, true, true, true, true, true, true, true, true, true, true, true, true, true, false, true, false, false, false] rfl rfl (take_ofW HT_.out HW_.out (by kernel_rfl)) (fun _ _ _ h => h) (Or.inl ⟨by rfl, ?_⟩) hHeld ?_ ?_
                            rotate_left
                            · rintro w' ⟨s0, s1, s2, s3⟩
                              go_simp
                              with_reducible rfl
                            rotate_left
                            · simp only [Act.put, List.setIfInBounds_toArray, List.set_cons_zero, List.set_cons_succ, i64_w, i32_w]
                              rfl
                            refine one_ (i := 18) (N := some 110) #[true, true, true, true, true, true, true, true, true, true, true, true, true, true, true, true, true, true, true, true, false, false, false] rfl rfl (one_of HT_.out (by kernel_rfl)) (by decide) (fun K hK => ?_)
                            refine goes_ Try.func23 (by kernel_rfl) rfl #[.pointer (some ⟨gb153, 0, none⟩)] (by rfl) rfl rfl (by (try simp only [List.map_toArray, List.map_cons, List.map_nil]); first | done | rfl | (simp only [List.length_drop, List.length_take]; rfl)) ?_
                            with_reducible refine (pack_Taker_End.calls gb153 x154000_14 x154001_14 t186 t187 t188 w _ ?side1 ?side2 A132.out).mono ?_
                            (case side1 => repeat (first | (with_reducible first | exact HI153.out | apply IsS35.alloc | apply IsS35.drewN | apply IsS35.drew | apply IsS35.set_0 | apply IsS35.set_1 | refine IsS35.far ?_ NB153_154.out _ | refine IsS35.far ?_ NB153_157.out _) | exact HI153.out))
                            (case side2 => repeat (first | (with_reducible first | exact HB.out | apply below_alloc | apply pw_below_drewN | apply below_drew1 | refine below_set ?_ (IsS35.ge HI153.out) | refine below_set ?_ GE154.out | refine below_set ?_ GE157.out) | exact HB.out))
                            rintro e w139 ⟨rfl, hi, hb, hk⟩
                            refine ⟨_, rfl, ?_⟩
                            have n0_ := Aside0.mk (KeepBut.blk hk (g' := gb154) (o := .cells #[.string x155000_14, .int .i64 x155001_14] 37 (0, 0)) (by (with_reducible repeat (first | refine blk_drewN ?_ _ | refine blk_drew ?_ | refine blk_alloc ?_ _)); exact BK154.out) NB154_153.out (by simp))
                            have n1_ := Aside0.mk (KeepBut.blk hk (g' := gb157) (o := .cells #[.int .u8 ((rd_T39 l1 x33_2).f0), .int .i64 ((rd_T39 l1 x33_2).f1)] 39 (0, 0)) (by (with_reducible repeat (first | refine blk_drewN ?_ _ | refine blk_drew ?_ | refine blk_alloc ?_ _)); exact BK157.out) NB157_153.out (by simp))
                            have n2_ := Aside0.mk (hb)
                            have n3_ := Aside0.mk (hi)
                            clear BK154
                            clear BK157
                            clear HB
                            clear HI153
                            have BK154 := n0_
                            have BK157 := n1_
                            have HB := n2_
                            have HI153 := n3_
                            clear n0_ n1_ n2_ n3_
                            (try clear hb)
                            (try clear hb2)
                            (try clear hk)
                            (try clear hi)
                            refine hK.out _ _ ⟨(blk_cell (Aside0.mk HI153.out.1).out 0).trans (by first | rfl | (rw [kp_t187]; rfl) | (rw [kp_t188]; rfl)), (blk_cell (Aside0.mk HI153.out.1).out 1).trans (by first | rfl | (rw [kp_t187]; rfl) | (rw [kp_t188]; rfl)), (blk_cell BK154.out 0).trans (by first | rfl | (rw [kp_t187]; rfl) | (rw [kp_t188]; rfl)), (blk_cell BK154.out 1).trans (by first | rfl | (rw [kp_t187]; rfl) | (rw [kp_t188]; rfl))⟩ (fun hHeld => ?_)
                            clear hK K
                            refine norm_ (a' := ?_) ?_ ?_
                            rotate_left
                            · show Act.put _ (some 110) _ = _
                              simp only [Act.put, List.setIfInBounds_toArray, List.set_cons_zero, List.set_cons_succ, i64_w, i32_w]
                              rfl
                            refine one_ (i := 20) (N := some 112) #[true, true, true, true, true, true, true, true, true, true, true, true, true, true, true, true, true, true, true, true, true, false, false] rfl rfl (one_of HT_.out (by kernel_rfl)) (by decide) (fun K hK => ?_)
                            refine goes_ Try.func24 (by kernel_rfl) rfl #[.agg #[.string x155000_14, .int .i64 x155001_14]] (by rfl) rfl rfl (by (try simp only [List.map_toArray, List.map_cons, List.map_nil]); first | done | rfl | (simp only [List.length_drop, List.length_take]; rfl)) ?_
                            with_reducible refine (bosunref02_End.calls x155000_14 x155001_14 t189 _ A133.out).mono ?_
                            rintro e w140 ⟨rfl, hb⟩
                            refine ⟨_, rfl, ?_⟩
                            have n0_ := Aside0.mk (blk_below (g := gb154) (o := .cells #[.string x155000_14, .int .i64 x155001_14] 37 (0, 0)) (by (with_reducible repeat (first | refine blk_drewN ?_ _ | refine blk_drew ?_ | refine blk_alloc ?_ _)); exact BK154.out) hb)
                            have n1_ := Aside0.mk (blk_below (g := gb157) (o := .cells #[.int .u8 ((rd_T39 l1 x33_2).f0), .int .i64 ((rd_T39 l1 x33_2).f1)] 39 (0, 0)) (by (with_reducible repeat (first | refine blk_drewN ?_ _ | refine blk_drew ?_ | refine blk_alloc ?_ _)); exact BK157.out) hb)
                            have n2_ := Aside0.mk (IsS35.below (by repeat (first | (with_reducible first | exact HI153.out | apply IsS35.alloc | apply IsS35.drewN | apply IsS35.drew | apply IsS35.set_0 | apply IsS35.set_1 | refine IsS35.far ?_ NB153_154.out _ | refine IsS35.far ?_ NB153_157.out _) | exact HI153.out)) hb)
                            have n3_ := Aside0.mk (below_step (by repeat (first | (with_reducible first | exact HB.out | apply below_alloc | apply pw_below_drewN | apply below_drew1 | refine below_set ?_ (IsS35.ge HI153.out) | refine below_set ?_ GE154.out | refine below_set ?_ GE157.out) | exact HB.out)) hb)
                            clear BK154
                            clear BK157
                            clear HI153
                            clear HB
                            have BK154 := n0_
                            have BK157 := n1_
                            have HI153 := n2_
                            have HB := n3_
                            clear n0_ n1_ n2_ n3_
                            (try clear hb)
                            (try clear hb2)
                            (try clear hk)
                            (try clear hi)
                            refine hK.out _ _ ⟨(blk_cell (Aside0.mk HI153.out.1).out 0).trans (by first | rfl | (rw [kp_t187]; rfl) | (rw [kp_t188]; rfl)), (blk_cell (Aside0.mk HI153.out.1).out 1).trans (by first | rfl | (rw [kp_t187]; rfl) | (rw [kp_t188]; rfl)), (blk_cell BK154.out 0).trans (by first | rfl | (rw [kp_t187]; rfl) | (rw [kp_t188]; rfl)), (blk_cell BK154.out 1).trans (by first | rfl | (rw [kp_t187]; rfl) | (rw [kp_t188]; rfl))⟩ (fun hHeld => ?_)
                            clear hK K
                            refine norm_ (a' := ?_) ?_ ?_
                            rotate_left
                            · show Act.put _ (some 112) _ = _
                              simp only [Act.put, List.setIfInBounds_toArray, List.set_cons_zero, List.set_cons_succ, i64_w, i32_w]
                              rfl
                            refine pure_ (i := 21) (N := some 113) (v := ?_) (a' := ?_) #[true, true, true, true, true, true, true, true, true, true, true, true, true, true, true, true, true, true, true, true, true, true, false] rfl rfl (any_of HT_.out (by kernel_rfl)) (fun _ _ _ h => h) (Or.inl ⟨by rfl, ?_⟩) ?_ ?_
                            rotate_left
                            · intro w'
                              go_simp
                              with_reducible rfl
                            rotate_left
                            · simp only [Act.put, List.setIfInBounds_toArray, List.set_cons_zero, List.set_cons_succ, i64_w, i32_w]
                              rfl
                            refine pure_ (i := 22) (N := some 114) (v := ?_) (a' := ?_) #[true, true, true, true, true, true, true, true, true, true, true, true, true, true, true, true, true, true, true, true, true, true, true] rfl rfl (any_of HT_.out (by kernel_rfl)) (fun _ _ _ h => h) (Or.inl ⟨by rfl, ?_⟩) ?_ ?_
                            rotate_left
                            · intro w'
                              go_simp
                              with_reducible rfl
                            rotate_left
                            · simp only [Act.put, List.setIfInBounds_toArray, List.set_cons_zero, List.set_cons_succ, i64_w, i32_w]
                              rfl
                            refine done_ (done_of HT_.out (by kernel_rfl)) ?_
                            try go_wp2
                            go_ret
                            exact ⟨by first | rfl | (simp [errW_none, errW_some] <;> rfl) | (simp [*, errW_none, errW_some] <;> rfl), by repeat (first | (with_reducible first | exact HB.out | apply below_alloc | apply pw_below_drewN | apply below_drew1 | refine below_set ?_ (IsS35.ge HI153.out) | refine below_set ?_ GE154.out | refine below_set ?_ GE157.out) | exact HB.out)⟩
                        · rw [if_neg c131] at H
                          have c131b0 : (x154001_14 == x155001_14) = false := beq_eq_false_iff_ne.mpr c131
                          have c131b1 : (x154001_14 != x155001_14) = true := bne_iff_ne.mpr c131
                          obtain rfl := Option.some.inj H
                          try go_wp2
                          have n0_ := Aside0.mk (blk_drew BK154.out)
                          have n1_ := Aside0.mk (blk_drew BK157.out)
                          have n2_ := Aside0.mk (IsS35.drew HI153.out)
                          have n3_ := Aside0.mk (below_drew1 HB.out)
                          clear BK154
                          clear BK157
                          clear HI153
                          clear HB
                          have BK154 := n0_
                          have BK157 := n1_
                          have HI153 := n2_
                          have HB := n3_
                          clear n0_ n1_ n2_ n3_
                          refine start_ (n := 23) (S := fun w' => w'.cell? ⟨gb153, 0, none⟩ = some (.string x154000_14) ∧ w'.cell? ⟨gb153, 1, none⟩ = some (.int .i64 x154001_14) ∧ w'.cell? ⟨gb154, 0, none⟩ = some (.string x155000_14) ∧ w'.cell? ⟨gb154, 1, none⟩ = some (.int .i64 x155001_14)) (ds := []) #[false, false, false, false, false, false, false, false, false, false, false, false, false, false, false, false, false, false, false, false, false, false, false] (by kernel_rfl) rfl rfl ⟨(blk_cell (Aside0.mk HI153.out.1).out 0).trans (by first | rfl | (rw [kp_t187]; rfl) | (rw [kp_t188]; rfl)), (blk_cell (Aside0.mk HI153.out.1).out 1).trans (by first | rfl | (rw [kp_t187]; rfl) | (rw [kp_t188]; rfl)), (blk_cell BK154.out 0).trans (by first | rfl | (rw [kp_t187]; rfl) | (rw [kp_t188]; rfl)), (blk_cell BK154.out 1).trans (by first | rfl | (rw [kp_t187]; rfl) | (rw [kp_t188]; rfl))⟩ (fun hHeld => ?_); refine with_tabW bosunlaw02_PackTakes.tab29 bosunlaw02_PackTakes.bits29 (fun HT_ HW_ => ?_)
                          generalize wc.drew = w141 at BK154 BK157 HI153 HB hHeld ⊢
                          refine pure_ (i := 0) (N := some 92) (v := ?_) (a' := ?_) #[true, false, false, false, false, false, false, false, false, false, false, false, false, false, false, false, false, false, false, false, false, false, false] rfl rfl (any_of HT_.out (by kernel_rfl)) (fun _ _ _ h => h) (Or.inl ⟨by rfl, ?_⟩) ?_ ?_
                          rotate_left
                          · intro w'
                            go_simp
                            with_reducible rfl
                          rotate_left
                          · simp only [Act.put, List.setIfInBounds_toArray, List.set_cons_zero, List.set_cons_succ, i64_w, i32_w]
                            rfl
                          refine pure_ (i := 1) (N := some 93) (v := ?_) (a' := ?_) #[true, true, false, false, false, false, false, false, false, false, false, false, false, false, false, false, false, false, false, false, false, false, false] rfl rfl (any_of HT_.out (by kernel_rfl)) (fun _ _ _ h => h) (Or.inl ⟨by rfl, ?_⟩) ?_ ?_
                          rotate_left
                          · intro w'
                            go_simp
                            with_reducible rfl
                          rotate_left
                          · simp only [Act.put, List.setIfInBounds_toArray, List.set_cons_zero, List.set_cons_succ, i64_w, i32_w]
                            rfl
                          refine pure_ (i := 2) (N := some 94) (v := ?_) (a' := ?_) #[true, true, true, false, false, false, false, false, false, false, false, false, false, false, false, false, false, false, false, false, false, false, false] rfl rfl (any_of HT_.out (by kernel_rfl)) (fun _ _ _ h => h) (Or.inl ⟨by rfl, ?_⟩) ?_ ?_
                          rotate_left
                          · intro w'
                            go_simp
                            with_reducible rfl
                          rotate_left
                          · simp only [Act.put, List.setIfInBounds_toArray, List.set_cons_zero, List.set_cons_succ, i64_w, i32_w]
                            rfl
                          refine pure_ (i := 4) (N := some 96) (v := ?_) (a' := ?_) #[true, true, true, false, true, false, false, false, false, false, false, false, false, false, false, false, false, false, false, false, false, false, false] rfl rfl (any_of HT_.out (by kernel_rfl)) (fun _ _ _ h => h) (Or.inl ⟨by rfl, ?_⟩) ?_ ?_
                          rotate_left
                          · intro w'
                            go_simp
                            with_reducible rfl
                          rotate_left
                          · simp only [Act.put, List.setIfInBounds_toArray, List.set_cons_zero, List.set_cons_succ, i64_w, i32_w]
                            rfl
                          refine take_ (i := 3) (N := some 95) (v := ?_) (a' := ?_) #[true, true, true, true, true, false, false, false, false, false, false, false, false, false, false, false, false, false, false, false, false, false, false] rfl rfl (take_ofW HT_.out HW_.out (by kernel_rfl)) (fun _ _ _ h => h) (Or.inl ⟨by rfl, ?_⟩) hHeld ?_ ?_
                          rotate_left
                          · rintro w' ⟨s0, s1, s2, s3⟩
                            go_simp
                            with_reducible rfl
                          rotate_left
                          · simp only [Act.put, List.setIfInBounds_toArray, List.set_cons_zero, List.set_cons_succ, i64_w, i32_w]
                            rfl
                          refine take_ (i := 5) (N := some 97) (v := ?_) (a' := ?_) #[true, true, true, true, true, true, false, false, false, false, false, false, false, false, false, false, false, false, false, false, false, false, false] rfl rfl (take_ofW HT_.out HW_.out (by kernel_rfl)) (fun _ _ _ h => h) (Or.inl ⟨by rfl, ?_⟩) hHeld ?_ ?_
                          rotate_left
                          · rintro w' ⟨s0, s1, s2, s3⟩
                            go_simp
                            with_reducible rfl
                          rotate_left
                          · simp only [Act.put, List.setIfInBounds_toArray, List.set_cons_zero, List.set_cons_succ, i64_w, i32_w]
                            rfl
                          refine pure_ (i := 6) (N := some 98) (v := ?_) (a' := ?_) #[true, true, true, true, true, true, true, false, false, false, false, false, false, false, false, false, false, false, false, false, false, false, false] rfl rfl (any_of HT_.out (by kernel_rfl)) (fun _ _ _ h => h) (Or.inl ⟨by rfl, ?_⟩) ?_ ?_
                          rotate_left
                          · intro w'
                            go_simp
                            with_reducible rfl
                          rotate_left
                          · simp only [Act.put, List.setIfInBounds_toArray, List.set_cons_zero, List.set_cons_succ, i64_w, i32_w]
                            rfl
                          refine pure_ (i := 7) (N := some 99) (v := ?_) (a' := ?_) #[true, true, true, true, true, true, true, true, false, false, false, false, false, false, false, false, false, false, false, false, false, false, false] rfl rfl (any_of HT_.out (by kernel_rfl)) (fun _ _ _ h => h) (Or.inl ⟨by rfl, ?_⟩) ?_ ?_
                          rotate_left
                          · intro w'
                            go_simp
                            with_reducible rfl
                          rotate_left
                          · simp only [Act.put, List.setIfInBounds_toArray, List.set_cons_zero, List.set_cons_succ, i64_w, i32_w]
                            rfl
                          refine pure_ (i := 8) (N := some 100) (v := ?_) (a' := ?_) #[true, true, true, true, true, true, true, true, true, false, false, false, false, false, false, false, false, false, false, false, false, false, false] rfl rfl (any_of HT_.out (by kernel_rfl)) (fun _ _ _ h => h) (Or.inl ⟨by rfl, ?_⟩) ?_ ?_
                          rotate_left
                          · intro w'
                            go_simp
                            with_reducible rfl
                          rotate_left
                          · simp only [Act.put, List.setIfInBounds_toArray, List.set_cons_zero, List.set_cons_succ, i64_w, i32_w]
                            rfl
                          refine pure_ (i := 9) (N := some 101) (v := ?_) (a' := ?_) #[true, true, true, true, true, true, true, true, true, true, false, false, false, false, false, false, false, false, false, false, false, false, false] rfl rfl (any_of HT_.out (by kernel_rfl)) (fun _ _ _ h => h) (Or.inl ⟨by rfl, ?_⟩) ?_ ?_
                          rotate_left
                          · intro w'
                            go_simp
                            with_reducible rfl
                          rotate_left
                          · simp only [Act.put, List.setIfInBounds_toArray, List.set_cons_zero, List.set_cons_succ, i64_w, i32_w]
                            rfl
                          refine pure_ (i := 10) (N := some 102) (v := ?_) (a' := ?_) #[true, true, true, true, true, true, true, true, true, true, true, false, false, false, false, false, false, false, false, false, false, false, false] rfl rfl (any_of HT_.out (by kernel_rfl)) (fun _ _ _ h => h) (Or.inl ⟨by rfl, ?_⟩) ?_ ?_
                          rotate_left
                          · intro w'
                            go_simp
                            with_reducible rfl
                          rotate_left
                          · simp only [Act.put, List.setIfInBounds_toArray, List.set_cons_zero, List.set_cons_succ, i64_w, i32_w]
                            rfl
                          refine pure_ (i := 12) (N := some 104) (v := ?_) (a' := ?_) #[true, true, true, true, true, true, true, true, true, true, true, false, true, false, false, false, false, false, false, false, false, false, false] rfl rfl (any_of HT_.out (by kernel_rfl)) (fun _ _ _ h => h) (Or.inl ⟨by rfl, ?_⟩) ?_ ?_
                          rotate_left
                          · intro w'
                            go_simp
                            with_reducible rfl
                          rotate_left
                          · simp only [Act.put, List.setIfInBounds_toArray, List.set_cons_zero, List.set_cons_succ, i64_w, i32_w]
                            rfl
                          refine take_ (i := 11) (N := some 103) (v := ?_) (a' := ?_) #[true, true, true, true, true, true, true, true, true, true, true, true, true, false, false, false, false, false, false, false, false, false, false] rfl rfl (take_ofW HT_.out HW_.out (by kernel_rfl)) (fun _ _ _ h => h) (Or.inl ⟨by rfl, ?_⟩) hHeld ?_ ?_
                          rotate_left
                          · rintro w' ⟨s0, s1, s2, s3⟩
                            go_simp
                            with_reducible rfl
                          rotate_left
                          · simp only [Act.put, List.setIfInBounds_toArray, List.set_cons_zero, List.set_cons_succ, i64_w, i32_w]
                            rfl
                          refine take_ (i := 13) (N := some 105) (v := ?_) (a' := ?_) #[true, true, true, true, true, true, true, true, true, true, true, true, true, true, false, false, false, false, false, false, false, false, false] rfl rfl (take_ofW HT_.out HW_.out (by kernel_rfl)) (fun _ _ _ h => h) (Or.inl ⟨by rfl, ?_⟩) hHeld ?_ ?_
                          rotate_left
                          · rintro w' ⟨s0, s1, s2, s3⟩
                            go_simp
                            with_reducible rfl
                          rotate_left
                          · simp only [Act.put, List.setIfInBounds_toArray, List.set_cons_zero, List.set_cons_succ, i64_w, i32_w]
                            rfl
                          refine pure_ (i := 14) (N := some 106) (v := ?_) (a' := ?_) #[true, true, true, true, true, true, true, true, true, true, true, true, true, true, true, false, false, false, false, false, false, false, false] rfl rfl (any_of HT_.out (by kernel_rfl)) (fun _ _ _ h => h) (Or.inl ⟨by rfl, ?_⟩) ?_ ?_
                          rotate_left
                          · intro w'
                            go_simp
                            with_reducible rfl
                          rotate_left
                          · simp only [Act.put, List.setIfInBounds_toArray, List.set_cons_zero, List.set_cons_succ, i64_w, i32_w]
                            rfl
                          refine pure_ (i := 15) (N := some 107) (v := ?_) (a' := ?_) #[true, true, true, true, true, true, true, true, true, true, true, true, true, true, true, true, false, false, false, false, false, false, false] rfl rfl (any_of HT_.out (by kernel_rfl)) (fun _ _ _ h => h) (Or.inl ⟨by rfl, ?_⟩) ?_ ?_
                          rotate_left
                          · intro w'
                            go_simp
                            with_reducible rfl
                          rotate_left
                          · simp only [Act.put, List.setIfInBounds_toArray, List.set_cons_zero, List.set_cons_succ, i64_w, i32_w]
                            rfl
                          refine pure_ (i := 16) (N := some 108) (v := ?_) (a' := ?_) #[true, true, true, true, true, true, true, true, true, true, true, true, true, true, true, true, true, false, false, false, false, false, false] rfl rfl (any_of HT_.out (by kernel_rfl)) (fun _ _ _ h => h) (Or.inl ⟨by rfl, ?_⟩) ?_ ?_
                          rotate_left
                          · intro w'
                            go_simp
                            with_reducible rfl
                          rotate_left
                          · simp only [Act.put, List.setIfInBounds_toArray, List.set_cons_zero, List.set_cons_succ, i64_w, i32_w]
                            rfl
                          refine pure_ (i := 17) (N := some 109) (v := undef) (a' := ?_) #[true, true, true, true, true, true, true, true, true, true, true, true, true, true, true, true, true, true, false, false, false, false, false] rfl rfl (any_of HT_.out (by kernel_rfl)) (fun _ _ _ h => h) (Or.inr ⟨by rfl, rfl⟩) ?_ ?_
                          rotate_left
                          · simp only [Act.put, List.setIfInBounds_toArray, List.set_cons_zero, List.set_cons_succ, i64_w, i32_w]
                            rfl
                          refine pure_ (i := 18) (N := some 110) (v := undef) (a' := ?_) #[true, true, true, true, true, true, true, true, true, true, true, true, true, true, true, true, true, true, true, false, false, false, false] rfl rfl (any_of HT_.out (by kernel_rfl)) (fun _ _ _ h => h) (Or.inr ⟨by rfl, rfl⟩) ?_ ?_
                          rotate_left
                          · simp only [Act.put, List.setIfInBounds_toArray, List.set_cons_zero, List.set_cons_succ, i64_w, i32_w]
                            rfl
                          refine pure_ (i := 19) (N := some 111) (v := undef) (a' := ?_) #[true, true, true, true, true, true, true, true, true, true, true, true, true, true, true, true, true, true, true, true, false, false, false] rfl rfl (any_of HT_.out (by kernel_rfl)) (fun _ _ _ h => h) (Or.inr ⟨by rfl, rfl⟩) ?_ ?_
                          rotate_left
                          · simp only [Act.put, List.setIfInBounds_toArray, List.set_cons_zero, List.set_cons_succ, i64_w, i32_w]
                            rfl
                          refine pure_ (i := 20) (N := some 112) (v := undef) (a' := ?_) #[true, true, true, true, true, true, true, true, true, true, true, true, true, true, true, true, true, true, true, true, true, false, false] rfl rfl (any_of HT_.out (by kernel_rfl)) (fun _ _ _ h => h) (Or.inr ⟨by rfl, rfl⟩) ?_ ?_
                          rotate_left
                          · simp only [Act.put, List.setIfInBounds_toArray, List.set_cons_zero, List.set_cons_succ, i64_w, i32_w]
                            rfl
                          refine pure_ (i := 21) (N := some 113) (v := undef) (a' := ?_) #[true, true, true, true, true, true, true, true, true, true, true, true, true, true, true, true, true, true, true, true, true, true, false] rfl rfl (any_of HT_.out (by kernel_rfl)) (fun _ _ _ h => h) (Or.inr ⟨by rfl, rfl⟩) ?_ ?_
                          rotate_left
                          · simp only [Act.put, List.setIfInBounds_toArray, List.set_cons_zero, List.set_cons_succ, i64_w, i32_w]
                            rfl
                          refine pure_ (i := 22) (N := some 114) (v := ?_) (a' := ?_) #[true, true, true, true, true, true, true, true, true, true, true, true, true, true, true, true, true, true, true, true, true, true, true] rfl rfl (any_of HT_.out (by kernel_rfl)) (fun _ _ _ h => h) (Or.inl ⟨by rfl, ?_⟩) ?_ ?_
                          rotate_left
                          · intro w'
                            go_simp
                            with_reducible rfl
                          rotate_left
                          · simp only [Act.put, List.setIfInBounds_toArray, List.set_cons_zero, List.set_cons_succ, i64_w, i32_w]
                            rfl
                          refine done_ (done_of HT_.out (by kernel_rfl)) ?_
                          try go_wp2
                          go_ret
                          exact ⟨by first | rfl | (simp [errW_none, errW_some] <;> rfl) | (simp [*, errW_none, errW_some] <;> rfl), by repeat (first | (with_reducible first | exact HB.out | apply below_alloc | apply pw_below_drewN | apply below_drew1 | refine below_set ?_ (IsS35.ge HI153.out) | refine below_set ?_ GE154.out | refine below_set ?_ GE157.out) | exact HB.out)⟩
                      · rw [if_neg c130] at H
                        have c130b0 : (x154000_14.toList == x155000_14.toList) = false := beq_eq_false_iff_ne.mpr c130
                        have c130b1 : (x154000_14.toList != x155000_14.toList) = true := bne_iff_ne.mpr c130
                        obtain rfl := Option.some.inj H
                        try go_wp2
                        have n0_ := Aside0.mk (blk_drew BK154.out)
                        have n1_ := Aside0.mk (blk_drew BK157.out)
                        have n2_ := Aside0.mk (IsS35.drew HI153.out)
                        have n3_ := Aside0.mk (below_drew1 HB.out)
                        clear BK154
                        clear BK157
                        clear HI153
                        clear HB
                        have BK154 := n0_
                        have BK157 := n1_
                        have HI153 := n2_
                        have HB := n3_
                        clear n0_ n1_ n2_ n3_
                        refine start_ (n := 23) (S := fun w' => w'.cell? ⟨gb153, 0, none⟩ = some (.string x154000_14) ∧ w'.cell? ⟨gb153, 1, none⟩ = some (.int .i64 x154001_14) ∧ w'.cell? ⟨gb154, 0, none⟩ = some (.string x155000_14) ∧ w'.cell? ⟨gb154, 1, none⟩ = some (.int .i64 x155001_14)) (ds := []) #[false, false, false, false, false, false, false, false, false, false, false, false, false, false, false, false, false, false, false, false, false, false, false] (by kernel_rfl) rfl rfl ⟨(blk_cell (Aside0.mk HI153.out.1).out 0).trans (by first | rfl | (rw [kp_t187]; rfl) | (rw [kp_t188]; rfl)), (blk_cell (Aside0.mk HI153.out.1).out 1).trans (by first | rfl | (rw [kp_t187]; rfl) | (rw [kp_t188]; rfl)), (blk_cell BK154.out 0).trans (by first | rfl | (rw [kp_t187]; rfl) | (rw [kp_t188]; rfl)), (blk_cell BK154.out 1).trans (by first | rfl | (rw [kp_t187]; rfl) | (rw [kp_t188]; rfl))⟩ (fun hHeld => ?_); refine with_tabW bosunlaw02_PackTakes.tab29 bosunlaw02_PackTakes.bits29 (fun HT_ HW_ => ?_)
                        generalize wc.drew = w142 at BK154 BK157 HI153 HB hHeld ⊢
                        refine pure_ (i := 0) (N := some 92) (v := ?_) (a' := ?_) #[true, false, false, false, false, false, false, false, false, false, false, false, false, false, false, false, false, false, false, false, false, false, false] rfl rfl (any_of HT_.out (by kernel_rfl)) (fun _ _ _ h => h) (Or.inl ⟨by rfl, ?_⟩) ?_ ?_
                        rotate_left
                        · intro w'
                          go_simp
                          with_reducible rfl
                        rotate_left
                        · simp only [Act.put, List.setIfInBounds_toArray, List.set_cons_zero, List.set_cons_succ, i64_w, i32_w]
                          rfl
                        refine pure_ (i := 1) (N := some 93) (v := ?_) (a' := ?_) #[true, true, false, false, false, false, false, false, false, false, false, false, false, false, false, false, false, false, false, false, false, false, false] rfl rfl (any_of HT_.out (by kernel_rfl)) (fun _ _ _ h => h) (Or.inl ⟨by rfl, ?_⟩) ?_ ?_
                        rotate_left
                        · intro w'
                          go_simp
                          with_reducible rfl
                        rotate_left
                        · simp only [Act.put, List.setIfInBounds_toArray, List.set_cons_zero, List.set_cons_succ, i64_w, i32_w]
                          rfl
                        refine pure_ (i := 2) (N := some 94) (v := ?_) (a' := ?_) #[true, true, true, false, false, false, false, false, false, false, false, false, false, false, false, false, false, false, false, false, false, false, false] rfl rfl (any_of HT_.out (by kernel_rfl)) (fun _ _ _ h => h) (Or.inl ⟨by rfl, ?_⟩) ?_ ?_
                        rotate_left
                        · intro w'
                          go_simp
                          with_reducible rfl
                        rotate_left
                        · simp only [Act.put, List.setIfInBounds_toArray, List.set_cons_zero, List.set_cons_succ, i64_w, i32_w]
                          rfl
                        refine pure_ (i := 4) (N := some 96) (v := ?_) (a' := ?_) #[true, true, true, false, true, false, false, false, false, false, false, false, false, false, false, false, false, false, false, false, false, false, false] rfl rfl (any_of HT_.out (by kernel_rfl)) (fun _ _ _ h => h) (Or.inl ⟨by rfl, ?_⟩) ?_ ?_
                        rotate_left
                        · intro w'
                          go_simp
                          with_reducible rfl
                        rotate_left
                        · simp only [Act.put, List.setIfInBounds_toArray, List.set_cons_zero, List.set_cons_succ, i64_w, i32_w]
                          rfl
                        refine take_ (i := 3) (N := some 95) (v := ?_) (a' := ?_) #[true, true, true, true, true, false, false, false, false, false, false, false, false, false, false, false, false, false, false, false, false, false, false] rfl rfl (take_ofW HT_.out HW_.out (by kernel_rfl)) (fun _ _ _ h => h) (Or.inl ⟨by rfl, ?_⟩) hHeld ?_ ?_
                        rotate_left
                        · rintro w' ⟨s0, s1, s2, s3⟩
                          go_simp
                          with_reducible rfl
                        rotate_left
                        · simp only [Act.put, List.setIfInBounds_toArray, List.set_cons_zero, List.set_cons_succ, i64_w, i32_w]
                          rfl
                        refine take_ (i := 5) (N := some 97) (v := ?_) (a' := ?_) #[true, true, true, true, true, true, false, false, false, false, false, false, false, false, false, false, false, false, false, false, false, false, false] rfl rfl (take_ofW HT_.out HW_.out (by kernel_rfl)) (fun _ _ _ h => h) (Or.inl ⟨by rfl, ?_⟩) hHeld ?_ ?_
                        rotate_left
                        · rintro w' ⟨s0, s1, s2, s3⟩
                          go_simp
                          with_reducible rfl
                        rotate_left
                        · simp only [Act.put, List.setIfInBounds_toArray, List.set_cons_zero, List.set_cons_succ, i64_w, i32_w]
                          rfl
                        refine pure_ (i := 6) (N := some 98) (v := ?_) (a' := ?_) #[true, true, true, true, true, true, true, false, false, false, false, false, false, false, false, false, false, false, false, false, false, false, false] rfl rfl (any_of HT_.out (by kernel_rfl)) (fun _ _ _ h => h) (Or.inl ⟨by rfl, ?_⟩) ?_ ?_
                        rotate_left
                        · intro w'
                          go_simp
                          with_reducible rfl
                        rotate_left
                        · simp only [Act.put, List.setIfInBounds_toArray, List.set_cons_zero, List.set_cons_succ, i64_w, i32_w]
                          rfl
                        refine pure_ (i := 7) (N := some 99) (v := ?_) (a' := ?_) #[true, true, true, true, true, true, true, true, false, false, false, false, false, false, false, false, false, false, false, false, false, false, false] rfl rfl (any_of HT_.out (by kernel_rfl)) (fun _ _ _ h => h) (Or.inl ⟨by rfl, ?_⟩) ?_ ?_
                        rotate_left
                        · intro w'
                          go_simp
                          with_reducible rfl
                        rotate_left
                        · simp only [Act.put, List.setIfInBounds_toArray, List.set_cons_zero, List.set_cons_succ, i64_w, i32_w]
                          rfl
                        refine pure_ (i := 8) (N := some 100) (v := undef) (a' := ?_) #[true, true, true, true, true, true, true, true, true, false, false, false, false, false, false, false, false, false, false, false, false, false, false] rfl rfl (any_of HT_.out (by kernel_rfl)) (fun _ _ _ h => h) (Or.inr ⟨by rfl, rfl⟩) ?_ ?_
                        rotate_left
                        · simp only [Act.put, List.setIfInBounds_toArray, List.set_cons_zero, List.set_cons_succ, i64_w, i32_w]
                          rfl
                        refine pure_ (i := 9) (N := some 101) (v := undef) (a' := ?_) #[true, true, true, true, true, true, true, true, true, true, false, false, false, false, false, false, false, false, false, false, false, false, false] rfl rfl (any_of HT_.out (by kernel_rfl)) (fun _ _ _ h => h) (Or.inr ⟨by rfl, rfl⟩) ?_ ?_
                        rotate_left
                        · simp only [Act.put, List.setIfInBounds_toArray, List.set_cons_zero, List.set_cons_succ, i64_w, i32_w]
                          rfl
                        refine pure_ (i := 10) (N := some 102) (v := undef) (a' := ?_) #[true, true, true, true, true, true, true, true, true, true, true, false, false, false, false, false, false, false, false, false, false, false, false] rfl rfl (any_of HT_.out (by kernel_rfl)) (fun _ _ _ h => h) (Or.inr ⟨by rfl, rfl⟩) ?_ ?_
                        rotate_left
                        · simp only [Act.put, List.setIfInBounds_toArray, List.set_cons_zero, List.set_cons_succ, i64_w, i32_w]
                          rfl
                        refine pure_ (i := 11) (N := some 103) (v := undef) (a' := ?_) #[true, true, true, true, true, true, true, true, true, true, true, true, false, false, false, false, false, false, false, false, false, false, false] rfl rfl (any_of HT_.out (by kernel_rfl)) (fun _ _ _ h => h) (Or.inr ⟨by rfl, rfl⟩) ?_ ?_
                        rotate_left
                        · simp only [Act.put, List.setIfInBounds_toArray, List.set_cons_zero, List.set_cons_succ, i64_w, i32_w]
                          rfl
                        refine pure_ (i := 12) (N := some 104) (v := undef) (a' := ?_) #[true, true, true, true, true, true, true, true, true, true, true, true, true, false, false, false, false, false, false, false, false, false, false] rfl rfl (any_of HT_.out (by kernel_rfl)) (fun _ _ _ h => h) (Or.inr ⟨by rfl, rfl⟩) ?_ ?_
                        rotate_left
                        · simp only [Act.put, List.setIfInBounds_toArray, List.set_cons_zero, List.set_cons_succ, i64_w, i32_w]
                          rfl
                        refine pure_ (i := 13) (N := some 105) (v := undef) (a' := ?_) #[true, true, true, true, true, true, true, true, true, true, true, true, true, true, false, false, false, false, false, false, false, false, false] rfl rfl (any_of HT_.out (by kernel_rfl)) (fun _ _ _ h => h) (Or.inr ⟨by rfl, rfl⟩) ?_ ?_
                        rotate_left
                        · simp only [Act.put, List.setIfInBounds_toArray, List.set_cons_zero, List.set_cons_succ, i64_w, i32_w]
                          rfl
                        refine pure_ (i := 14) (N := some 106) (v := undef) (a' := ?_) #[true, true, true, true, true, true, true, true, true, true, true, true, true, true, true, false, false, false, false, false, false, false, false] rfl rfl (any_of HT_.out (by kernel_rfl)) (fun _ _ _ h => h) (Or.inr ⟨by rfl, rfl⟩) ?_ ?_
                        rotate_left
                        · simp only [Act.put, List.setIfInBounds_toArray, List.set_cons_zero, List.set_cons_succ, i64_w, i32_w]
                          rfl
                        refine pure_ (i := 15) (N := some 107) (v := ?_) (a' := ?_) #[true, true, true, true, true, true, true, true, true, true, true, true, true, true, true, true, false, false, false, false, false, false, false] rfl rfl (any_of HT_.out (by kernel_rfl)) (fun _ _ _ h => h) (Or.inl ⟨by rfl, ?_⟩) ?_ ?_
                        rotate_left
                        · intro w'
                          go_simp
                          with_reducible rfl
                        rotate_left
                        · simp only [Act.put, List.setIfInBounds_toArray, List.set_cons_zero, List.set_cons_succ, i64_w, i32_w]
                          rfl
                        refine pure_ (i := 16) (N := some 108) (v := ?_) (a' := ?_) #[true, true, true, true, true, true, true, true, true, true, true, true, true, true, true, true, true, false, false, false, false, false, false] rfl rfl (any_of HT_.out (by kernel_rfl)) (fun _ _ _ h => h) (Or.inl ⟨by rfl, ?_⟩) ?_ ?_
                        rotate_left
                        · intro w'
                          go_simp
                          with_reducible rfl
                        rotate_left
                        · simp only [Act.put, List.setIfInBounds_toArray, List.set_cons_zero, List.set_cons_succ, i64_w, i32_w]
                          rfl
                        refine pure_ (i := 17) (N := some 109) (v := undef) (a' := ?_) #[true, true, true, true, true, true, true, true, true, true, true, true, true, true, true, true, true, true, false, false, false, false, false] rfl rfl (any_of HT_.out (by kernel_rfl)) (fun _ _ _ h => h) (Or.inr ⟨by rfl, rfl⟩) ?_ ?_
                        rotate_left
                        · simp only [Act.put, List.setIfInBounds_toArray, List.set_cons_zero, List.set_cons_succ, i64_w, i32_w]
                          rfl
                        refine pure_ (i := 18) (N := some 110) (v := undef) (a' := ?_) #[true, true, true, true, true, true, true, true, true, true, true, true, true, true, true, true, true, true, true, false, false, false, false] rfl rfl (any_of HT_.out (by kernel_rfl)) (fun _ _ _ h => h) (Or.inr ⟨by rfl, rfl⟩) ?_ ?_
                        rotate_left
                        · simp only [Act.put, List.setIfInBounds_toArray, List.set_cons_zero, List.set_cons_succ, i64_w, i32_w]
                          rfl
                        refine pure_ (i := 19) (N := some 111) (v := undef) (a' := ?_) #[true, true, true, true, true, true, true, true, true, true, true, true, true, true, true, true, true, true, true, true, false, false, false] rfl rfl (any_of HT_.out (by kernel_rfl)) (fun _ _ _ h => h) (Or.inr ⟨by rfl, rfl⟩) ?_ ?_
                        rotate_left
                        · simp only [Act.put, List.setIfInBounds_toArray, List.set_cons_zero, List.set_cons_succ, i64_w, i32_w]
                          rfl
                        refine pure_ (i := 20) (N := some 112) (v := undef) (a' := ?_) #[true, true, true, true, true, true, true, true, true, true, true, true, true, true, true, true, true, true, true, true, true, false, false] rfl rfl (any_of HT_.out (by kernel_rfl)) (fun _ _ _ h => h) (Or.inr ⟨by rfl, rfl⟩) ?_ ?_
                        rotate_left
                        · simp only [Act.put, List.setIfInBounds_toArray, List.set_cons_zero, List.set_cons_succ, i64_w, i32_w]
                          rfl
                        refine pure_ (i := 21) (N := some 113) (v := undef) (a' := ?_) #[true, true, true, true, true, true, true, true, true, true, true, true, true, true, true, true, true, true, true, true, true, true, false] rfl rfl (any_of HT_.out (by kernel_rfl)) (fun _ _ _ h => h) (Or.inr ⟨by rfl, rfl⟩) ?_ ?_
                        rotate_left
                        · simp only [Act.put, List.setIfInBounds_toArray, List.set_cons_zero, List.set_cons_succ, i64_w, i32_w]
                          rfl
                        refine pure_ (i := 22) (N := some 114) (v := ?_) (a' := ?_) #[true, true, true, true, true, true, true, true, true, true, true, true, true, true, true, true, true, true, true, true, true, true, true] rfl rfl (any_of HT_.out (by kernel_rfl)) (fun _ _ _ h => h) (Or.inl ⟨by rfl, ?_⟩) ?_ ?_
                        rotate_left
                        · intro w'
                          go_simp
                          with_reducible rfl
                        rotate_left
                        · simp only [Act.put, List.setIfInBounds_toArray, List.set_cons_zero, List.set_cons_succ, i64_w, i32_w]
                          rfl
                        refine done_ (done_of HT_.out (by kernel_rfl)) ?_
                        try go_wp2
                        go_ret
                        exact ⟨by first | rfl | (simp [errW_none, errW_some] <;> rfl) | (simp [*, errW_none, errW_some] <;> rfl), by repeat (first | (with_reducible first | exact HB.out | apply below_alloc | apply pw_below_drewN | apply below_drew1 | refine below_set ?_ (IsS35.ge HI153.out) | refine below_set ?_ GE154.out | refine below_set ?_ GE157.out) | exact HB.out)⟩
                · rw [if_neg c14] at H
                  exact absurd H (by simp)
              · rw [if_neg c13] at H
                exact absurd H (by simp)
            · rw [if_neg c12] at H
              have c12b0 : decide (x33_2 < (l1.length : Int)) = false := decide_eq_false c12
              clear c12
              replace H := Option.bind_eq_some_iff.mp H
              obtain ⟨t155, A1430, H⟩ := H
              replace H : (some t155) = some r := H
              have A143 := Aside0.mk A1430
              clear A1430
              obtain rfl := Option.some.inj H
              go_wp2_with (first | ((with_reducible refine gate_callee (f := 8) rfl ?_); refine goesL_ (some 116) rfl rfl Try.func8 (by kernel_rfl) rfl #[] rfl (by (try simp only [List.map_toArray, List.map_cons, List.map_nil]); first | done | rfl | (simp only [List.length_drop, List.length_take]; rfl) | (simp (disch := first | omega | (simp at *; omega)) only [u64_id, i64_id, u8_id]; rfl)) ?_; (with_reducible refine (bosunlaw02_Awake.calls k2  t155 _ A143.out).mono ?_); rintro e w144 ⟨rfl, hb⟩; refine ⟨_, rfl, ?_⟩; have n0_ := Aside0.mk (blk_below (g := gb154) (o := .cells #[.string x155000_2, .int .i64 x155001_2] 37 (0, 0)) (by (with_reducible repeat (first | refine blk_drewN ?_ _ | refine blk_drew ?_ | refine blk_alloc ?_ _)); exact BK154.out) hb); have n1_ := Aside0.mk (IsS35.below (by repeat (first | (with_reducible first | exact HI153.out | apply IsS35.alloc | apply IsS35.drewN | apply IsS35.drew | apply IsS35.set_0 | apply IsS35.set_1 | refine IsS35.far ?_ NB153_154.out _) | exact HI153.out)) hb); have n2_ := Aside0.mk (below_step (by repeat (first | (with_reducible first | exact HB.out | apply below_alloc | apply pw_below_drewN | apply below_drew1 | refine below_set ?_ (IsS35.ge HI153.out) | refine below_set ?_ GE154.out) | exact HB.out)) hb); clear BK154; clear HI153; clear HB; have BK154 := n0_; have HI153 := n1_; have HB := n2_; clear n0_ n1_ n2_; (try clear hb); (try clear hb2); (try clear hk); (try clear hi)))
              go_ret
              exact ⟨by first | rfl | (simp [errW_none, errW_some] <;> rfl) | (simp [*, errW_none, errW_some] <;> rfl), by repeat (first | (with_reducible first | exact HB.out | apply below_alloc | apply pw_below_drewN | apply below_drew1 | refine below_set ?_ (IsS35.ge HI153.out) | refine below_set ?_ GE154.out) | exact HB.out)⟩

end Go.Proofs.Ytenbeniaohigmaa.GTakes
