/- Written by this session's own program (wip/gen.py) out of the translation: plain Lean functions of the Go functions, and proofs that the calls come to their answers. No conditions beside those in the statements. -/
import Derived.Test.YtenbeniaohigmaaDoorGDnsx0
import Derived.Test.YtenbeniaohigmaaDoorGDnsx1
import Derived.Test.YtenbeniaohigmaaDoorGDnsx2
import Derived.Test.YtenbeniaohigmaaDoorGDnsx3
import Derived.Test.YtenbeniaohigmaaDoorGDnsName
import Derived.Test.YtenbeniaohigmaaDoorGW
namespace Go.Proofs.YtenbeniaohigmaaDoor.GDns
open Go.RowKit Go.Proofs.YtenbeniaohigmaaDoorW.PrintWords Go.Proofs.YtenbeniaohigmaaDoorW.PrintLast Go.Proofs.YtenbeniaohigmaaDoorW.PrintMore
attribute [local go_sem] max2_int min2_int max_two min_two max_three min_three max_four min_four   -- for this text's walks alone
set_option linter.unusedVariables false
set_option linter.unusedSimpArgs false

/-! ### bosunlaw13_DnsParts: function 7 -/
mutual
def bosunlaw13_DnsParts.j0 : Nat → ByteArray → ByteArray → Bool → Option (Bool)
  | 0, _, _, _ => none
  | k + 1, x0, x1, x17 => if x17 = true then ((bosunlaw13_Awake.f k).bind fun t115 => (some t115)) else ((dns_Name.f k x0).bind fun t116 => (if t116 = true then ((dns_Parts.f k x0).bind fun t117 => (bosunlaw13_DnsParts.l0 k x0 x1 t117 (⟨#[]⟩ : ByteArray) t117 (t117.length : Int) 0)) else (bosunlaw13_DnsParts.j2 k x0 x1)))
def bosunlaw13_DnsParts.j2 : Nat → ByteArray → ByteArray → Option (Bool)
  | 0, _, _ => none
  | k + 1, x0, x1 => if x0.size + 1 ≤ 9223372036854775807 then (if (x0 ++ (⟨#[46]⟩ : ByteArray)).size + x1.size ≤ 9223372036854775807 then ((bosunlaw13_Awake.f k).bind fun t124 => (if t124 = true then (if (((x0 ++ (⟨#[46]⟩ : ByteArray)) ++ x1).size : Int) > 253 then (some true) else ((dns_Name.f k ((x0 ++ (⟨#[46]⟩ : ByteArray)) ++ x1)).bind fun t125 => ((dns_Name.f k x0).bind fun t126 => (if t126 = true then ((dns_Name.f k x1).bind fun t127 => (some (t125 == t127))) else (some (t125 == false)))))) else (some false))) else (none)) else (none)
def bosunlaw13_DnsParts.l0 : Nat → ByteArray → ByteArray → List ByteArray → ByteArray → List ByteArray → Int → Int → Option (Bool)
  | 0, _, _, _, _, _, _, _ => none
  | k + 1, x0, x1, x5, x6, x23, x24, x25 => if x25 < x24 then (if 0 ≤ x25 then (if x25 < (x23.length : Int) then (if x25 > 0 then (if x6.size + 1 ≤ 9223372036854775807 then (if (x6 ++ (⟨#[46]⟩ : ByteArray)).size + (rdOf ByteArray.empty x23 x25).size ≤ 9223372036854775807 then ((dns_Label.f k (rdOf ByteArray.empty x23 x25)).bind fun t122 => (if t122 = true then (bosunlaw13_DnsParts.l0 k x0 x1 x5 ((x6 ++ (⟨#[46]⟩ : ByteArray)) ++ (rdOf ByteArray.empty x23 x25)) x23 x24 (wrap64 (x25 + 1))) else (some false))) else (none)) else (none)) else (if x6.size + (rdOf ByteArray.empty x23 x25).size ≤ 9223372036854775807 then ((dns_Label.f k (rdOf ByteArray.empty x23 x25)).bind fun t123 => (if t123 = true then (bosunlaw13_DnsParts.l0 k x0 x1 x5 (x6 ++ (rdOf ByteArray.empty x23 x25)) x23 x24 (wrap64 (x25 + 1))) else (some false))) else (none))) else (none)) else (none)) else (if x6.toList = x0.toList then ((dns_Label.f k x0).bind fun t120 => (if (((x5.length : Int) == 1) != t120) = true then (some false) else (bosunlaw13_DnsParts.j2 k x0 x1))) else (some false))
end
def bosunlaw13_DnsParts.f (k : Nat) (a0 : ByteArray) (a1 : ByteArray) : Option (Bool) := if (a0.size : Int) > 400 then (bosunlaw13_DnsParts.j0 k a0 a1 true) else (bosunlaw13_DnsParts.j0 k a0 a1 (decide ((a1.size : Int) > 400)))
theorem bosunlaw13_DnsParts.mono_l : ∀ k, (∀ y0 y1 y2, LeO (bosunlaw13_DnsParts.j0 k y0 y1 y2) (bosunlaw13_DnsParts.j0 (k + 1) y0 y1 y2)) ∧ (∀ y0 y1, LeO (bosunlaw13_DnsParts.j2 k y0 y1) (bosunlaw13_DnsParts.j2 (k + 1) y0 y1)) ∧ (∀ y0 y1 y2 y3 y4 y5 y6, LeO (bosunlaw13_DnsParts.l0 k y0 y1 y2 y3 y4 y5 y6) (bosunlaw13_DnsParts.l0 (k + 1) y0 y1 y2 y3 y4 y5 y6))
  | 0 => ⟨fun _ _ _ r h => by simp [bosunlaw13_DnsParts.j0] at h, fun _ _ r h => by simp [bosunlaw13_DnsParts.j2] at h, fun _ _ _ _ _ _ _ r h => by simp [bosunlaw13_DnsParts.l0] at h⟩
  | k + 1 => by
    obtain ⟨ih0, ih1, ih2⟩ := bosunlaw13_DnsParts.mono_l k
    refine ⟨?_, ?_, ?_⟩
    · intro y0 y1 y2
      unfold bosunlaw13_DnsParts.j0
      repeat' first
      | (with_reducible exact ih0 _ _ _)
      | (with_reducible exact ih1 _ _)
      | (with_reducible exact ih2 _ _ _ _ _ _ _)
      | (with_reducible exact bosunlaw13_Awake.mono _)
      | (with_reducible exact dns_Label.mono _ _)
      | (with_reducible exact dns_Name.mono _ _)
      | (with_reducible exact dns_Parts.mono _ _)
      | (with_reducible exact LeO.refl _)
      | (with_reducible exact LeO.none _)
      | (with_reducible refine LeO.ite ?_ ?_)
      | (with_reducible refine LeO.bind ?_ (fun _ => ?_))
      | exact ih0 _ _ _
      | exact ih1 _ _
      | exact ih2 _ _ _ _ _ _ _
      | exact bosunlaw13_Awake.mono _
      | exact dns_Label.mono _ _
      | exact dns_Name.mono _ _
      | exact dns_Parts.mono _ _
      | exact LeO.none _
      | refine LeO.ite ?_ ?_
      | refine LeO.bind ?_ (fun _ => ?_)
    · intro y0 y1
      unfold bosunlaw13_DnsParts.j2
      repeat' first
      | (with_reducible exact ih0 _ _ _)
      | (with_reducible exact ih1 _ _)
      | (with_reducible exact ih2 _ _ _ _ _ _ _)
      | (with_reducible exact bosunlaw13_Awake.mono _)
      | (with_reducible exact dns_Label.mono _ _)
      | (with_reducible exact dns_Name.mono _ _)
      | (with_reducible exact dns_Parts.mono _ _)
      | (with_reducible exact LeO.refl _)
      | (with_reducible exact LeO.none _)
      | (with_reducible refine LeO.ite ?_ ?_)
      | (with_reducible refine LeO.bind ?_ (fun _ => ?_))
      | exact ih0 _ _ _
      | exact ih1 _ _
      | exact ih2 _ _ _ _ _ _ _
      | exact bosunlaw13_Awake.mono _
      | exact dns_Label.mono _ _
      | exact dns_Name.mono _ _
      | exact dns_Parts.mono _ _
      | exact LeO.none _
      | refine LeO.ite ?_ ?_
      | refine LeO.bind ?_ (fun _ => ?_)
    · intro y0 y1 y2 y3 y4 y5 y6
      unfold bosunlaw13_DnsParts.l0
      repeat' first
      | (with_reducible exact ih0 _ _ _)
      | (with_reducible exact ih1 _ _)
      | (with_reducible exact ih2 _ _ _ _ _ _ _)
      | (with_reducible exact bosunlaw13_Awake.mono _)
      | (with_reducible exact dns_Label.mono _ _)
      | (with_reducible exact dns_Name.mono _ _)
      | (with_reducible exact dns_Parts.mono _ _)
      | (with_reducible exact LeO.refl _)
      | (with_reducible exact LeO.none _)
      | (with_reducible refine LeO.ite ?_ ?_)
      | (with_reducible refine LeO.bind ?_ (fun _ => ?_))
      | exact ih0 _ _ _
      | exact ih1 _ _
      | exact ih2 _ _ _ _ _ _ _
      | exact bosunlaw13_Awake.mono _
      | exact dns_Label.mono _ _
      | exact dns_Name.mono _ _
      | exact dns_Parts.mono _ _
      | exact LeO.none _
      | refine LeO.ite ?_ ?_
      | refine LeO.bind ?_ (fun _ => ?_)
theorem bosunlaw13_DnsParts.mono : ∀ a0 a1 k, LeO (bosunlaw13_DnsParts.f k a0 a1) (bosunlaw13_DnsParts.f (k + 1) a0 a1) := by
  intro a0 a1 k
  obtain ⟨ih0, ih1, ih2⟩ := bosunlaw13_DnsParts.mono_l k
  unfold bosunlaw13_DnsParts.f
  repeat' first
      | (with_reducible exact ih0 _ _ _)
      | (with_reducible exact ih1 _ _)
      | (with_reducible exact ih2 _ _ _ _ _ _ _)
      | (with_reducible exact bosunlaw13_Awake.mono _)
      | (with_reducible exact dns_Label.mono _ _)
      | (with_reducible exact dns_Name.mono _ _)
      | (with_reducible exact dns_Parts.mono _ _)
      | (with_reducible exact LeO.refl _)
      | (with_reducible exact LeO.none _)
      | (with_reducible refine LeO.ite ?_ ?_)
      | (with_reducible refine LeO.bind ?_ (fun _ => ?_))
      | exact ih0 _ _ _
      | exact ih1 _ _
      | exact ih2 _ _ _ _ _ _ _
      | exact bosunlaw13_Awake.mono _
      | exact dns_Label.mono _ _
      | exact dns_Name.mono _ _
      | exact dns_Parts.mono _ _
      | exact LeO.none _
      | refine LeO.ite ?_ ?_
      | refine LeO.bind ?_ (fun _ => ?_)
set_option maxHeartbeats 8000000 in
set_option maxRecDepth 100000 in
theorem bosunlaw13_DnsParts.calls (k : Nat) (a0 : ByteArray) (a1 : ByteArray) (r : Bool) (w : World) (h : bosunlaw13_DnsParts.f k a0 a1 = some r) (hG : GW.GW w) :
    Calls Tryd.prog 7 #[.string a0, .string a1] w fun e w' => e = .returned (.bool r) ∧ Below w.heap.size w w' := by
  have HB := Aside0.mk (Below.refl w.heap.size w)
  have H : (if (a0.size : Int) > 400 then (bosunlaw13_DnsParts.j0 k a0 a1 true) else (bosunlaw13_DnsParts.j0 k a0 a1 (decide ((a1.size : Int) > 400)))) = some r := h
  clear h
  have HC3 := Aside0.mk H
  clear H
  go_enter Tryd.func7, Tryd.ntmps7
  go_upto_region 1 with (fail)
  go_cut [17] (fun v17 wc => ∃ (kq : Nat) (x17_2 : Bool), v17 = .bool x17_2 ∧ Aside0 (bosunlaw13_DnsParts.j0 kq a0 a1 x17_2 = some r) ∧ Aside0 (kq ≤ k) ∧ Aside0 (Below w.heap.size w wc))
  case first =>
    have H := HC3.out
    clear HC3
    by_cases c4 : (a0.size : Int) > 400
    · rw [if_pos c4] at H
      have c4b0 : decide (400 < (a0.size : Int)) = true := decide_eq_true c4
      have c4b1 : decide (400 < a0.size) = true := decide_eq_true (by omega)
      clear c4
      (first | rw [c4b0] | (simp only [i64_w, i32_w]; rw [c4b0]) | skip)
      have H' := Aside0.mk H
      clear H
      go_wp2
      go_meet
      case rel => exact ⟨_, (true), (by first | rfl | (simp; done) | (simp [*]; done)), H', ⟨by first | omega | exact Nat.le_refl _⟩, ⟨by repeat (first | (with_reducible first | exact HB.out | apply below_alloc | apply pw_below_drewN | apply below_drew1) | exact HB.out)⟩⟩
    · rw [if_neg c4] at H
      have c4b0 : decide (400 < (a0.size : Int)) = false := decide_eq_false c4
      have c4b1 : decide (400 < a0.size) = false := decide_eq_false (by omega)
      clear c4
      (first | rw [c4b0] | (simp only [i64_w, i32_w]; rw [c4b0]) | skip)
      have H' := Aside0.mk H
      clear H
      go_wp2
      go_meet
      case rel => exact ⟨_, (decide ((a1.size : Int) > 400)), (by first | rfl | (simp; done) | (simp [*]; done)), H', ⟨by first | omega | exact Nat.le_refl _⟩, ⟨by repeat (first | (with_reducible first | exact HB.out | apply below_alloc | apply pw_below_drewN | apply below_drew1) | exact HB.out)⟩⟩
  case rest =>
    clear HC3
    try clear p2
    try clear c4
    try clear c4b0
    try clear c4b1
    obtain ⟨kq, x17_2, rfl, HA, HJ2, HB⟩ := hcut
    cases kq with
    | zero => exact absurd HA.out (by simp [bosunlaw13_DnsParts.j0])
    | succ kj2 =>
      have H := HA.out
      clear HA
      simp only [bosunlaw13_DnsParts.j0] at H
      by_cases c5 : x17_2 = true
      · subst c5
        have H1 : ((bosunlaw13_Awake.f kj2).bind fun t115 => (some t115)) = some r := by rw [if_pos rfl] at H; exact H
        clear H
        have H := H1
        clear H1
        replace H := Option.bind_eq_some_iff.mp H
        obtain ⟨t115, A60, H⟩ := H
        replace H : (some t115) = some r := H
        have A6 := Aside0.mk A60
        clear A60
        obtain rfl := Option.some.inj H
        go_wp2_with (first | ((with_reducible refine gate_callee (f := 30) rfl ?_); refine goesL_ (some 18) rfl rfl Tryd.func30 (by kernel_rfl) rfl #[] rfl (by (try simp only [List.map_toArray, List.map_cons, List.map_nil]); first | done | rfl | (simp only [List.length_drop, List.length_take]; rfl) | (simp (disch := first | omega | (simp at *; omega)) only [u64_id, i64_id, u8_id]; rfl)) ?_; (with_reducible refine (bosunlaw13_Awake.calls kj2  t115 _ A6.out).mono ?_); rintro e w7 ⟨rfl, hb⟩; refine ⟨_, rfl, ?_⟩; have n0_ := Aside0.mk (below_step (by repeat (first | (with_reducible first | exact HB.out | apply below_alloc | apply pw_below_drewN | apply below_drew1) | exact HB.out)) hb); clear HB; have HB := n0_; clear n0_; (try clear hb); (try clear hb2); (try clear hk); (try clear hi)))
        go_ret
        exact ⟨by first | rfl | (simp [errW_none, errW_some] <;> rfl) | (simp [*, errW_none, errW_some] <;> rfl), by repeat (first | (with_reducible first | exact HB.out | apply below_alloc | apply pw_below_drewN | apply below_drew1) | exact HB.out)⟩
      · replace c5 := Bool.eq_false_iff.mpr c5
        subst c5
        have H1 : ((dns_Name.f kj2 a0).bind fun t116 => (if t116 = true then ((dns_Parts.f kj2 a0).bind fun t117 => (bosunlaw13_DnsParts.l0 kj2 a0 a1 t117 (⟨#[]⟩ : ByteArray) t117 (t117.length : Int) 0)) else (bosunlaw13_DnsParts.j2 kj2 a0 a1))) = some r := by rw [if_neg (show ¬ (false = true) by decide)] at H; exact H
        clear H
        have H := H1
        clear H1
        replace H := Option.bind_eq_some_iff.mp H
        obtain ⟨t116, A80, H⟩ := H
        replace H : (if t116 = true then ((dns_Parts.f kj2 a0).bind fun t117 => (bosunlaw13_DnsParts.l0 kj2 a0 a1 t117 (⟨#[]⟩ : ByteArray) t117 (t117.length : Int) 0)) else (bosunlaw13_DnsParts.j2 kj2 a0 a1)) = some r := H
        have A8 := Aside0.mk A80
        clear A80
        have HC9 := Aside0.mk H
        clear H
        go_upto_if 20 with (first | ((with_reducible refine gate_callee (f := 31) rfl ?_); refine goesL_ (some 20) rfl rfl Tryd.func31 (by kernel_rfl) rfl #[.string a0] rfl (by (try simp only [List.map_toArray, List.map_cons, List.map_nil]); first | done | rfl | (simp only [List.length_drop, List.length_take]; rfl) | (simp (disch := first | omega | (simp at *; omega)) only [u64_id, i64_id, u8_id]; rfl)) ?_; (with_reducible refine (dns_Name.calls kj2 a0 t116 _ A8.out).mono ?_); rintro e w10 ⟨rfl, hb⟩; refine ⟨_, rfl, ?_⟩; have n0_ := Aside0.mk (below_step (by repeat (first | (with_reducible first | exact HB.out | apply below_alloc | apply pw_below_drewN | apply below_drew1) | exact HB.out)) hb); clear HB; have HB := n0_; clear n0_; (try clear hb); (try clear hb2); (try clear hk); (try clear hi)))
        (try simp only [Act.put, List.setIfInBounds_toArray, List.set_cons_zero, List.set_cons_succ])
        go_cut [] (fun wc => ∃ (kq : Nat), Aside0 (bosunlaw13_DnsParts.j2 kq a0 a1 = some r) ∧ Aside0 (kq ≤ kj2) ∧ Aside0 (Below w.heap.size w wc))
        case first =>
          have H := HC9.out
          clear HC9
          by_cases c11 : t116 = true
          · subst c11
            have H1 : ((dns_Parts.f kj2 a0).bind fun t117 => (bosunlaw13_DnsParts.l0 kj2 a0 a1 t117 (⟨#[]⟩ : ByteArray) t117 (t117.length : Int) 0)) = some r := by rw [if_pos rfl] at H; exact H
            clear H
            have H := H1
            clear H1
            replace H := Option.bind_eq_some_iff.mp H
            obtain ⟨t117, A120, H⟩ := H
            replace H : (bosunlaw13_DnsParts.l0 kj2 a0 a1 t117 (⟨#[]⟩ : ByteArray) t117 (t117.length : Int) 0) = some r := H
            have A12 := Aside0.mk A120
            clear A120
            have H' := Aside0.mk H
            clear H
            go_wp2_with (first | ((with_reducible refine gate_callee (f := 32) rfl ?_); refine goesL_ (some 22) rfl rfl Tryd.func32 (by kernel_rfl) rfl #[.string a0] rfl (by (try simp only [List.map_toArray, List.map_cons, List.map_nil]); first | done | rfl | (simp only [List.length_drop, List.length_take]; rfl) | (simp (disch := first | omega | (simp at *; omega)) only [u64_id, i64_id, u8_id]; rfl)) ?_; (with_reducible refine (dns_Parts.calls kj2 a0 t117 _ A12.out (by first | assumption | exact GW.below hG (by first | exact HB.out | assumption | (repeat (first | (with_reducible first | exact HB.out | apply below_alloc | apply pw_below_drewN | apply below_drew1) | exact HB.out))) | exact GW.drawn hG (by first | assumption | (repeat (first | exact Drawn0.refl _ | assumption | apply Drawn0.step))))).mono ?_); rintro e w13 ⟨v118, rfl, ho0, hb⟩; refine ⟨_, rfl, ?_⟩; have n0_ := Aside0.mk (Kd.R_lower ho0 (below_size (by repeat (first | (with_reducible first | exact HB.out | apply below_alloc | apply pw_below_drewN | apply below_drew1) | exact HB.out)))); have n1_ := Aside0.mk (below_step (by repeat (first | (with_reducible first | exact HB.out | apply below_alloc | apply pw_below_drewN | apply below_drew1) | exact HB.out)) hb); clear HB; have HO119 := n0_; have HB := n1_; clear n0_ n1_; (try clear hb); (try clear hb2); (try clear hk); (try clear hi); (try clear ho0); obtain ⟨Ao14, co14, eo14⟩ := Kd.R_slice HO119.out; subst eo14))
            go_loopg [6, 25] kj2 (fun kq v6 v25 w' => ∃ (x6_2 : ByteArray) (x25_2 : Int), v6 = .string x6_2 ∧ v25 = .int .i64 x25_2 ∧ Aside0 (bosunlaw13_DnsParts.l0 kq a0 a1 t117 x6_2 t117 (t117.length : Int) x25_2 = some r) ∧ Aside0 (kq ≤ kj2) ∧ Aside0 (Kd.R Kd.string 9 w' w.heap.size (fun _ => True) (.slice Ao14 t117.length co14) t117) ∧ Aside0 (Kd.R Kd.string 9 w' w.heap.size (fun _ => True) (.slice Ao14 t117.length co14) t117) ∧ Aside0 (Below w.heap.size w w'))
            case atStart => exact ⟨((⟨#[]⟩ : ByteArray)), (0), (by first | rfl | (simp; done) | (simp [*]; done)), (by first | rfl | (simp; done) | (simp [*]; done)), H', ⟨Nat.le_refl _⟩, ⟨by (with_reducible repeat (first | apply Kd.R_alloc | apply Kd.R_drewN | apply Kd.R_drew)); exact HO119.out⟩, ⟨by (with_reducible repeat (first | apply Kd.R_alloc | apply Kd.R_drewN | apply Kd.R_drew)); exact HO119.out⟩, ⟨by repeat (first | (with_reducible first | exact HB.out | apply below_alloc | apply pw_below_drewN | apply below_drew1) | exact HB.out)⟩⟩
            case round =>
              clear H'
              try clear c1
              try clear p2
              try clear c3
              try clear c4
              try clear c4b0
              try clear c4b1
              try clear c5
              try clear c7
              try clear c11
              try clear p2
              obtain ⟨x6_2, x25_2, rfl, rfl, HA, HK2, HO_5, HO_23, HB⟩ := hrel
              cases gk with
              | zero => exact absurd HA.out (by simp [bosunlaw13_DnsParts.l0])
              | succ k2 =>
                have H := HA.out
                clear HA
                simp only [bosunlaw13_DnsParts.l0] at H
                by_cases c15 : x25_2 < (t117.length : Int)
                · rw [if_pos c15] at H
                  have c15b0 : decide (x25_2 < (t117.length : Int)) = true := decide_eq_true c15
                  clear c15
                  (first | rw [c15b0] | (simp only [i64_w, i32_w]; rw [c15b0]) | skip)
                  by_cases c16 : 0 ≤ x25_2
                  · rw [if_pos c16] at H
                    have c16b0 : decide (0 ≤ x25_2) = true := decide_eq_true c16
                    clear c16
                    by_cases c17 : x25_2 < (t117.length : Int)
                    · rw [if_pos c17] at H
                      have c17b0 : decide (x25_2 < (t117.length : Int)) = true := decide_eq_true c17
                      clear c17
                      by_cases c18 : x25_2 > 0
                      · rw [if_pos c18] at H
                        have c18b0 : decide (0 < x25_2) = true := decide_eq_true c18
                        clear c18
                        by_cases c19 : x6_2.size + 1 ≤ 9223372036854775807
                        · rw [if_pos c19] at H
                          have c19b0 := eq_true c19
                          have c19b1 : decide (x6_2.size + 1 ≤ 9223372036854775807) = true := decide_eq_true c19
                          try have c19b2 : (9223372036854775807 < x6_2.size + 1) = False := eq_false (Nat.not_lt.2 c19)
                          by_cases c20 : (x6_2 ++ (⟨#[46]⟩ : ByteArray)).size + (rdOf ByteArray.empty t117 x25_2).size ≤ 9223372036854775807
                          · rw [if_pos c20] at H
                            have c20b0 := eq_true c20
                            have c20b1 : decide ((x6_2 ++ (⟨#[46]⟩ : ByteArray)).size + (rdOf ByteArray.empty t117 x25_2).size ≤ 9223372036854775807) = true := decide_eq_true c20
                            try have c20b2 : (9223372036854775807 < (x6_2 ++ (⟨#[46]⟩ : ByteArray)).size + (rdOf ByteArray.empty t117 x25_2).size) = False := eq_false (Nat.not_lt.2 c20)
                            have c20s := c20
                            try simp only [ByteArray.size_append] at c20s
                            try have c20s0 := eq_false (Nat.not_lt.2 c20s)
                            try have c20s1 := eq_true c20s
                            replace H := Option.bind_eq_some_iff.mp H
                            obtain ⟨t122, A210, H⟩ := H
                            replace H : (if t122 = true then (bosunlaw13_DnsParts.l0 k2 a0 a1 t117 ((x6_2 ++ (⟨#[46]⟩ : ByteArray)) ++ (rdOf ByteArray.empty t117 x25_2)) t117 (t117.length : Int) (wrap64 (x25_2 + 1))) else (some false)) = some r := H
                            have A21 := Aside0.mk A210
                            clear A210
                            by_cases c22 : t122 = true
                            · subst c22
                              have H1 : (bosunlaw13_DnsParts.l0 k2 a0 a1 t117 ((x6_2 ++ (⟨#[46]⟩ : ByteArray)) ++ (rdOf ByteArray.empty t117 x25_2)) t117 (t117.length : Int) (wrap64 (x25_2 + 1))) = some r := by rw [if_pos rfl] at H; exact H
                              clear H
                              have H := H1
                              clear H1
                              have H' := Aside0.mk H
                              clear H
                              have p121 : 0 ≤ (x25_2 : Int) := of_decide_eq_true (by first | (with_reducible assumption) | assumption)
                              have q121 : x25_2 < (t117.length : Int) := of_decide_eq_true (by first | (with_reducible assumption) | assumption)
                              obtain ⟨ad121, e121, hx121_0⟩ := Kd.at_string (Kd.R_reads' HO_23.out).2.2 x25_2 p121 q121
                              cases e121
                              replace p121 := eq_true p121
                              replace q121 := eq_true q121
                              go_wp2_with (first | ((with_reducible refine gate_callee (f := 33) rfl ?_); refine goesL_ (some 38) rfl rfl Tryd.func33 (by kernel_rfl) rfl #[.string (rdOf ByteArray.empty t117 x25_2)] rfl (by (try simp only [List.map_toArray, List.map_cons, List.map_nil]); first | done | rfl | (simp only [List.length_drop, List.length_take]; rfl) | (simp (disch := first | omega | (simp at *; omega)) only [u64_id, i64_id, u8_id]; rfl)) ?_; (with_reducible refine (dns_Label.calls k2 (rdOf ByteArray.empty t117 x25_2) true _ A21.out).mono ?_); rintro e w' ⟨rfl, ⟨nd, rfl⟩⟩; refine ⟨_, rfl, ?_⟩))
                              go_roundg k2
                              case measure => have := HJ2.out; have := HK2.out; omega
                              case rel => exact ⟨((x6_2 ++ (⟨#[46]⟩ : ByteArray)) ++ (rdOf ByteArray.empty t117 x25_2)), (wrap64 (x25_2 + 1)), (by first | rfl | (simp; done) | (simp [*]; done)), (by first | rfl | (simp; done) | (simp [*]; done)), H', ⟨by have := HJ2.out; have := HK2.out; omega⟩, ⟨by (with_reducible repeat (first | apply Kd.R_alloc | apply Kd.R_drewN | apply Kd.R_drew)); exact HO_5.out⟩, ⟨by (with_reducible repeat (first | apply Kd.R_alloc | apply Kd.R_drewN | apply Kd.R_drew)); exact HO_23.out⟩, ⟨by repeat (first | (with_reducible first | exact HB.out | apply below_alloc | apply pw_below_drewN | apply below_drew1) | exact HB.out)⟩⟩
                            · replace c22 := Bool.eq_false_iff.mpr c22
                              subst c22
                              have H1 : (some false) = some r := by rw [if_neg (show ¬ (false = true) by decide)] at H; exact H
                              clear H
                              have H := H1
                              clear H1
                              obtain rfl := Option.some.inj H
                              have p121 : 0 ≤ (x25_2 : Int) := of_decide_eq_true (by first | (with_reducible assumption) | assumption)
                              have q121 : x25_2 < (t117.length : Int) := of_decide_eq_true (by first | (with_reducible assumption) | assumption)
                              obtain ⟨ad121, e121, hx121_0⟩ := Kd.at_string (Kd.R_reads' HO_23.out).2.2 x25_2 p121 q121
                              cases e121
                              replace p121 := eq_true p121
                              replace q121 := eq_true q121
                              go_wp2_with (first | ((with_reducible refine gate_callee (f := 33) rfl ?_); refine goesL_ (some 38) rfl rfl Tryd.func33 (by kernel_rfl) rfl #[.string (rdOf ByteArray.empty t117 x25_2)] rfl (by (try simp only [List.map_toArray, List.map_cons, List.map_nil]); first | done | rfl | (simp only [List.length_drop, List.length_take]; rfl) | (simp (disch := first | omega | (simp at *; omega)) only [u64_id, i64_id, u8_id]; rfl)) ?_; (with_reducible refine (dns_Label.calls k2 (rdOf ByteArray.empty t117 x25_2) false _ A21.out).mono ?_); rintro e w' ⟨rfl, ⟨nd, rfl⟩⟩; refine ⟨_, rfl, ?_⟩))
                              go_ret
                              exact ⟨by first | rfl | (simp [errW_none, errW_some] <;> rfl) | (simp [*, errW_none, errW_some] <;> rfl), by repeat (first | (with_reducible first | exact HB.out | apply below_alloc | apply pw_below_drewN | apply below_drew1) | exact HB.out)⟩
                          · rw [if_neg c20] at H
                            exact absurd H (by simp)
                        · rw [if_neg c19] at H
                          exact absurd H (by simp)
                      · rw [if_neg c18] at H
                        have c18b0 : decide (0 < x25_2) = false := decide_eq_false c18
                        clear c18
                        by_cases c23 : x6_2.size + (rdOf ByteArray.empty t117 x25_2).size ≤ 9223372036854775807
                        · rw [if_pos c23] at H
                          have c23b0 := eq_true c23
                          have c23b1 : decide (x6_2.size + (rdOf ByteArray.empty t117 x25_2).size ≤ 9223372036854775807) = true := decide_eq_true c23
                          try have c23b2 : (9223372036854775807 < x6_2.size + (rdOf ByteArray.empty t117 x25_2).size) = False := eq_false (Nat.not_lt.2 c23)
                          replace H := Option.bind_eq_some_iff.mp H
                          obtain ⟨t123, A240, H⟩ := H
                          replace H : (if t123 = true then (bosunlaw13_DnsParts.l0 k2 a0 a1 t117 (x6_2 ++ (rdOf ByteArray.empty t117 x25_2)) t117 (t117.length : Int) (wrap64 (x25_2 + 1))) else (some false)) = some r := H
                          have A24 := Aside0.mk A240
                          clear A240
                          by_cases c25 : t123 = true
                          · subst c25
                            have H1 : (bosunlaw13_DnsParts.l0 k2 a0 a1 t117 (x6_2 ++ (rdOf ByteArray.empty t117 x25_2)) t117 (t117.length : Int) (wrap64 (x25_2 + 1))) = some r := by rw [if_pos rfl] at H; exact H
                            clear H
                            have H := H1
                            clear H1
                            have H' := Aside0.mk H
                            clear H
                            have p121 : 0 ≤ (x25_2 : Int) := of_decide_eq_true (by first | (with_reducible assumption) | assumption)
                            have q121 : x25_2 < (t117.length : Int) := of_decide_eq_true (by first | (with_reducible assumption) | assumption)
                            obtain ⟨ad121, e121, hx121_0⟩ := Kd.at_string (Kd.R_reads' HO_23.out).2.2 x25_2 p121 q121
                            cases e121
                            replace p121 := eq_true p121
                            replace q121 := eq_true q121
                            go_wp2_with (first | ((with_reducible refine gate_callee (f := 33) rfl ?_); refine goesL_ (some 38) rfl rfl Tryd.func33 (by kernel_rfl) rfl #[.string (rdOf ByteArray.empty t117 x25_2)] rfl (by (try simp only [List.map_toArray, List.map_cons, List.map_nil]); first | done | rfl | (simp only [List.length_drop, List.length_take]; rfl) | (simp (disch := first | omega | (simp at *; omega)) only [u64_id, i64_id, u8_id]; rfl)) ?_; (with_reducible refine (dns_Label.calls k2 (rdOf ByteArray.empty t117 x25_2) true _ A24.out).mono ?_); rintro e w' ⟨rfl, ⟨nd, rfl⟩⟩; refine ⟨_, rfl, ?_⟩))
                            go_roundg k2
                            case measure => have := HJ2.out; have := HK2.out; omega
                            case rel => exact ⟨(x6_2 ++ (rdOf ByteArray.empty t117 x25_2)), (wrap64 (x25_2 + 1)), (by first | rfl | (simp; done) | (simp [*]; done)), (by first | rfl | (simp; done) | (simp [*]; done)), H', ⟨by have := HJ2.out; have := HK2.out; omega⟩, ⟨by (with_reducible repeat (first | apply Kd.R_alloc | apply Kd.R_drewN | apply Kd.R_drew)); exact HO_5.out⟩, ⟨by (with_reducible repeat (first | apply Kd.R_alloc | apply Kd.R_drewN | apply Kd.R_drew)); exact HO_23.out⟩, ⟨by repeat (first | (with_reducible first | exact HB.out | apply below_alloc | apply pw_below_drewN | apply below_drew1) | exact HB.out)⟩⟩
                          · replace c25 := Bool.eq_false_iff.mpr c25
                            subst c25
                            have H1 : (some false) = some r := by rw [if_neg (show ¬ (false = true) by decide)] at H; exact H
                            clear H
                            have H := H1
                            clear H1
                            obtain rfl := Option.some.inj H
                            have p121 : 0 ≤ (x25_2 : Int) := of_decide_eq_true (by first | (with_reducible assumption) | assumption)
                            have q121 : x25_2 < (t117.length : Int) := of_decide_eq_true (by first | (with_reducible assumption) | assumption)
                            obtain ⟨ad121, e121, hx121_0⟩ := Kd.at_string (Kd.R_reads' HO_23.out).2.2 x25_2 p121 q121
                            cases e121
                            replace p121 := eq_true p121
                            replace q121 := eq_true q121
                            go_wp2_with (first | ((with_reducible refine gate_callee (f := 33) rfl ?_); refine goesL_ (some 38) rfl rfl Tryd.func33 (by kernel_rfl) rfl #[.string (rdOf ByteArray.empty t117 x25_2)] rfl (by (try simp only [List.map_toArray, List.map_cons, List.map_nil]); first | done | rfl | (simp only [List.length_drop, List.length_take]; rfl) | (simp (disch := first | omega | (simp at *; omega)) only [u64_id, i64_id, u8_id]; rfl)) ?_; (with_reducible refine (dns_Label.calls k2 (rdOf ByteArray.empty t117 x25_2) false _ A24.out).mono ?_); rintro e w' ⟨rfl, ⟨nd, rfl⟩⟩; refine ⟨_, rfl, ?_⟩))
                            go_ret
                            exact ⟨by first | rfl | (simp [errW_none, errW_some] <;> rfl) | (simp [*, errW_none, errW_some] <;> rfl), by repeat (first | (with_reducible first | exact HB.out | apply below_alloc | apply pw_below_drewN | apply below_drew1) | exact HB.out)⟩
                        · rw [if_neg c23] at H
                          exact absurd H (by simp)
                    · rw [if_neg c17] at H
                      exact absurd H (by simp)
                  · rw [if_neg c16] at H
                    exact absurd H (by simp)
                · rw [if_neg c15] at H
                  have c15b0 : decide (x25_2 < (t117.length : Int)) = false := decide_eq_false c15
                  clear c15
                  (first | rw [c15b0] | (simp only [i64_w, i32_w]; rw [c15b0]) | skip)
                  by_cases c26 : x6_2.toList = a0.toList
                  · rw [if_pos c26] at H
                    have c26b0 : (x6_2.toList == a0.toList) = true := beq_iff_eq.mpr c26
                    have c26b1 : (x6_2.toList != a0.toList) = false := bne_eq_false_iff_eq.mpr c26
                    clear c26
                    replace H := Option.bind_eq_some_iff.mp H
                    obtain ⟨t120, A270, H⟩ := H
                    replace H : (if (((t117.length : Int) == 1) != t120) = true then (some false) else (bosunlaw13_DnsParts.j2 k2 a0 a1)) = some r := H
                    have A27 := Aside0.mk A270
                    clear A270
                    by_cases c28 : (((t117.length : Int) == 1) != t120) = true
                    · rw [if_pos c28] at H
                      have c28b0 : (((t117.length : Int) == 1) != t120) = true := c28
                      (try (have c28b1 : decide (((t117.length : Int) == 1) = t120) = false := by simpa using c28))
                      (try (have c28b2 : (((t117.length : Int) == 1) == t120) = false := by simpa using c28))
                      (try (have c28b3 : ¬ (((t117.length : Int) == 1) = t120) := by simpa using c28))
                      clear c28
                      obtain rfl := Option.some.inj H
                      go_wp2_with (first | (go_at_call 33; (with_reducible refine (dns_Label.calls k2 a0 t120 _ A27.out).mono ?_); rintro e w' ⟨rfl, ⟨nd, rfl⟩⟩))
                      go_ret
                      exact ⟨by first | rfl | (simp [errW_none, errW_some] <;> rfl) | (simp [*, errW_none, errW_some] <;> rfl), by repeat (first | (with_reducible first | exact HB.out | apply below_alloc | apply pw_below_drewN | apply below_drew1) | exact HB.out)⟩
                    · rw [if_neg c28] at H
                      have c28b0 : (((t117.length : Int) == 1) != t120) = false := by simpa using c28
                      (try (have c28b1 : decide (((t117.length : Int) == 1) = t120) = true := by simpa using c28))
                      (try (have c28b2 : (((t117.length : Int) == 1) == t120) = true := by simpa using c28))
                      clear c28
                      have H' := Aside0.mk H
                      clear H
                      go_wp2_with (first | (go_at_call 33; (with_reducible refine (dns_Label.calls k2 a0 t120 _ A27.out).mono ?_); rintro e w' ⟨rfl, ⟨nd, rfl⟩⟩))
                      go_meet
                      case rel => exact ⟨_, H', ⟨by have := HJ2.out; have := HK2.out; first | omega | exact Nat.le_refl _⟩, ⟨by repeat (first | (with_reducible first | exact HB.out | apply below_alloc | apply pw_below_drewN | apply below_drew1) | exact HB.out)⟩⟩
                  · rw [if_neg c26] at H
                    have c26b0 : (x6_2.toList == a0.toList) = false := beq_eq_false_iff_ne.mpr c26
                    have c26b1 : (x6_2.toList != a0.toList) = true := bne_iff_ne.mpr c26
                    obtain rfl := Option.some.inj H
                    go_wp2
                    go_ret
                    exact ⟨by first | rfl | (simp [errW_none, errW_some] <;> rfl) | (simp [*, errW_none, errW_some] <;> rfl), by repeat (first | (with_reducible first | exact HB.out | apply below_alloc | apply pw_below_drewN | apply below_drew1) | exact HB.out)⟩
          · replace c11 := Bool.eq_false_iff.mpr c11
            subst c11
            have H1 : (bosunlaw13_DnsParts.j2 kj2 a0 a1) = some r := by rw [if_neg (show ¬ (false = true) by decide)] at H; exact H
            clear H
            have H := H1
            clear H1
            have H' := Aside0.mk H
            clear H
            go_wp2
            go_meet
            case rel => exact ⟨_, H', ⟨by have := HJ2.out; first | omega | exact Nat.le_refl _⟩, ⟨by repeat (first | (with_reducible first | exact HB.out | apply below_alloc | apply pw_below_drewN | apply below_drew1) | exact HB.out)⟩⟩
        case rest =>
          clear HC9
          try clear c1
          try clear p1
          try clear q1
          try clear hx1
          try clear c2
          try clear p2
          try clear c3
          try clear c4
          try clear c4b0
          try clear c4b1
          try clear c5
          try clear p6
          try clear c7
          try clear c11
          try clear p12
          try clear q12
          try clear hx12
          try clear c15
          try clear c15b0
          try clear c16
          try clear c16b0
          try clear c17
          try clear c17b0
          try clear c18
          try clear c18b0
          try clear c19
          try clear c19b0
          try clear c19b1
          try clear c19b2
          try clear c20
          try clear c20b0
          try clear c20b1
          try clear c20b2
          try clear c22
          try clear c23
          try clear c23b0
          try clear c23b1
          try clear c23b2
          try clear c25
          try clear c26
          try clear c26b0
          try clear c26b1
          try clear c28
          try clear c28b0
          try clear c28b1
          try clear c28b2
          try clear hx121_0
          try clear p121
          try clear p2
          try clear q121
          obtain ⟨kq, HA, HJ8, HB⟩ := hcut
          cases kq with
          | zero => exact absurd HA.out (by simp [bosunlaw13_DnsParts.j2])
          | succ kj8 =>
            have H := HA.out
            clear HA
            simp only [bosunlaw13_DnsParts.j2] at H
            by_cases c29 : a0.size + 1 ≤ 9223372036854775807
            · rw [if_pos c29] at H
              have c29b0 := eq_true c29
              have c29b1 : decide (a0.size + 1 ≤ 9223372036854775807) = true := decide_eq_true c29
              try have c29b2 : (9223372036854775807 < a0.size + 1) = False := eq_false (Nat.not_lt.2 c29)
              by_cases c30 : (a0 ++ (⟨#[46]⟩ : ByteArray)).size + a1.size ≤ 9223372036854775807
              · rw [if_pos c30] at H
                have c30b0 := eq_true c30
                have c30b1 : decide ((a0 ++ (⟨#[46]⟩ : ByteArray)).size + a1.size ≤ 9223372036854775807) = true := decide_eq_true c30
                try have c30b2 : (9223372036854775807 < (a0 ++ (⟨#[46]⟩ : ByteArray)).size + a1.size) = False := eq_false (Nat.not_lt.2 c30)
                have c30s := c30
                try simp only [ByteArray.size_append] at c30s
                try have c30s0 := eq_false (Nat.not_lt.2 c30s)
                try have c30s1 := eq_true c30s
                replace H := Option.bind_eq_some_iff.mp H
                obtain ⟨t124, A310, H⟩ := H
                replace H : (if t124 = true then (if (((a0 ++ (⟨#[46]⟩ : ByteArray)) ++ a1).size : Int) > 253 then (some true) else ((dns_Name.f kj8 ((a0 ++ (⟨#[46]⟩ : ByteArray)) ++ a1)).bind fun t125 => ((dns_Name.f kj8 a0).bind fun t126 => (if t126 = true then ((dns_Name.f kj8 a1).bind fun t127 => (some (t125 == t127))) else (some (t125 == false)))))) else (some false)) = some r := H
                have A31 := Aside0.mk A310
                clear A310
                by_cases c32 : t124 = true
                · subst c32
                  have H1 : (if (((a0 ++ (⟨#[46]⟩ : ByteArray)) ++ a1).size : Int) > 253 then (some true) else ((dns_Name.f kj8 ((a0 ++ (⟨#[46]⟩ : ByteArray)) ++ a1)).bind fun t125 => ((dns_Name.f kj8 a0).bind fun t126 => (if t126 = true then ((dns_Name.f kj8 a1).bind fun t127 => (some (t125 == t127))) else (some (t125 == false)))))) = some r := by rw [if_pos rfl] at H; exact H
                  clear H
                  have H := H1
                  clear H1
                  by_cases c33 : (((a0 ++ (⟨#[46]⟩ : ByteArray)) ++ a1).size : Int) > 253
                  · rw [if_pos c33] at H
                    have c33b0 : decide (253 < (((a0 ++ (⟨#[46]⟩ : ByteArray)) ++ a1).size : Int)) = true := decide_eq_true c33
                    try have c33b7 := decide_eq_true (by have z_ := c33; simp [ByteArray.size_append, show (⟨#[46]⟩ : ByteArray).size = 1 from rfl] at z_; exact z_)
                    have c33b1 : decide (253 < ((a0 ++ (⟨#[46]⟩ : ByteArray)) ++ a1).size) = true := decide_eq_true (by omega)
                    clear c33
                    obtain rfl := Option.some.inj H
                    go_wp2_with (first | ((with_reducible refine gate_callee (f := 30) rfl ?_); refine goesL_ (some 56) rfl rfl Tryd.func30 (by kernel_rfl) rfl #[] rfl (by (try simp only [List.map_toArray, List.map_cons, List.map_nil]); first | done | rfl | (simp only [List.length_drop, List.length_take]; rfl) | (simp (disch := first | omega | (simp at *; omega)) only [u64_id, i64_id, u8_id]; rfl)) ?_; (with_reducible refine (bosunlaw13_Awake.calls kj8  true _ A31.out).mono ?_); rintro e w34 ⟨rfl, hb⟩; refine ⟨_, rfl, ?_⟩; have n0_ := Aside0.mk (below_step (by repeat (first | (with_reducible first | exact HB.out | apply below_alloc | apply pw_below_drewN | apply below_drew1) | exact HB.out)) hb); clear HB; have HB := n0_; clear n0_; (try clear hb); (try clear hb2); (try clear hk); (try clear hi)))
                    go_ret
                    exact ⟨by first | rfl | (simp [errW_none, errW_some] <;> rfl) | (simp [*, errW_none, errW_some] <;> rfl), by repeat (first | (with_reducible first | exact HB.out | apply below_alloc | apply pw_below_drewN | apply below_drew1) | exact HB.out)⟩
                  · rw [if_neg c33] at H
                    have c33b0 : decide (253 < (((a0 ++ (⟨#[46]⟩ : ByteArray)) ++ a1).size : Int)) = false := decide_eq_false c33
                    try (have c33b6 := c33; simp [ByteArray.size_append, show (⟨#[46]⟩ : ByteArray).size = 1 from rfl] at c33b6; have c33b7 := decide_eq_false (Int.not_lt.2 c33b6))
                    have c33b1 : decide (253 < ((a0 ++ (⟨#[46]⟩ : ByteArray)) ++ a1).size) = false := decide_eq_false (by omega)
                    clear c33
                    replace H := Option.bind_eq_some_iff.mp H
                    obtain ⟨t125, A350, H⟩ := H
                    replace H : ((dns_Name.f kj8 a0).bind fun t126 => (if t126 = true then ((dns_Name.f kj8 a1).bind fun t127 => (some (t125 == t127))) else (some (t125 == false)))) = some r := H
                    have A35 := Aside0.mk A350
                    clear A350
                    replace H := Option.bind_eq_some_iff.mp H
                    obtain ⟨t126, A360, H⟩ := H
                    replace H : (if t126 = true then ((dns_Name.f kj8 a1).bind fun t127 => (some (t125 == t127))) else (some (t125 == false))) = some r := H
                    have A36 := Aside0.mk A360
                    clear A360
                    by_cases c37 : t126 = true
                    · subst c37
                      have H1 : ((dns_Name.f kj8 a1).bind fun t127 => (some (t125 == t127))) = some r := by rw [if_pos rfl] at H; exact H
                      clear H
                      have H := H1
                      clear H1
                      replace H := Option.bind_eq_some_iff.mp H
                      obtain ⟨t127, A380, H⟩ := H
                      replace H : (some (t125 == t127)) = some r := H
                      have A38 := Aside0.mk A380
                      clear A380
                      obtain rfl := Option.some.inj H
                      go_wp2_with (first | ((with_reducible refine gate_callee (f := 30) rfl ?_); refine goesL_ (some 56) rfl rfl Tryd.func30 (by kernel_rfl) rfl #[] rfl (by (try simp only [List.map_toArray, List.map_cons, List.map_nil]); first | done | rfl | (simp only [List.length_drop, List.length_take]; rfl) | (simp (disch := first | omega | (simp at *; omega)) only [u64_id, i64_id, u8_id]; rfl)) ?_; (with_reducible refine (bosunlaw13_Awake.calls kj8  true _ A31.out).mono ?_); rintro e w39 ⟨rfl, hb⟩; refine ⟨_, rfl, ?_⟩; have n0_ := Aside0.mk (below_step (by repeat (first | (with_reducible first | exact HB.out | apply below_alloc | apply pw_below_drewN | apply below_drew1) | exact HB.out)) hb); clear HB; have HB := n0_; clear n0_; (try clear hb); (try clear hb2); (try clear hk); (try clear hi)) | (go_at_call 31; (with_reducible refine (dns_Name.calls kj8 ((a0 ++ (⟨#[46]⟩ : ByteArray)) ++ a1) t125 _ A35.out).mono ?_); rintro e w40 ⟨rfl, hb⟩; have n0_ := Aside0.mk (below_step (by repeat (first | (with_reducible first | exact HB.out | apply below_alloc | apply pw_below_drewN | apply below_drew1) | exact HB.out)) hb); clear HB; have HB := n0_; clear n0_; (try clear hb); (try clear hb2); (try clear hk); (try clear hi)) | (go_at_call 31; (with_reducible refine (dns_Name.calls kj8 a0 true _ A36.out).mono ?_); rintro e w41 ⟨rfl, hb⟩; have n0_ := Aside0.mk (below_step (by repeat (first | (with_reducible first | exact HB.out | apply below_alloc | apply pw_below_drewN | apply below_drew1) | exact HB.out)) hb); clear HB; have HB := n0_; clear n0_; (try clear hb); (try clear hb2); (try clear hk); (try clear hi)) | (go_at_call 31; (with_reducible refine (dns_Name.calls kj8 a1 t127 _ A38.out).mono ?_); rintro e w42 ⟨rfl, hb⟩; have n0_ := Aside0.mk (below_step (by repeat (first | (with_reducible first | exact HB.out | apply below_alloc | apply pw_below_drewN | apply below_drew1) | exact HB.out)) hb); clear HB; have HB := n0_; clear n0_; (try clear hb); (try clear hb2); (try clear hk); (try clear hi)))
                      go_ret
                      exact ⟨by first | rfl | (simp [errW_none, errW_some] <;> rfl) | (simp [*, errW_none, errW_some] <;> rfl), by repeat (first | (with_reducible first | exact HB.out | apply below_alloc | apply pw_below_drewN | apply below_drew1) | exact HB.out)⟩
                    · replace c37 := Bool.eq_false_iff.mpr c37
                      subst c37
                      have H1 : (some (t125 == false)) = some r := by rw [if_neg (show ¬ (false = true) by decide)] at H; exact H
                      clear H
                      have H := H1
                      clear H1
                      obtain rfl := Option.some.inj H
                      go_wp2_with (first | ((with_reducible refine gate_callee (f := 30) rfl ?_); refine goesL_ (some 56) rfl rfl Tryd.func30 (by kernel_rfl) rfl #[] rfl (by (try simp only [List.map_toArray, List.map_cons, List.map_nil]); first | done | rfl | (simp only [List.length_drop, List.length_take]; rfl) | (simp (disch := first | omega | (simp at *; omega)) only [u64_id, i64_id, u8_id]; rfl)) ?_; (with_reducible refine (bosunlaw13_Awake.calls kj8  true _ A31.out).mono ?_); rintro e w43 ⟨rfl, hb⟩; refine ⟨_, rfl, ?_⟩; have n0_ := Aside0.mk (below_step (by repeat (first | (with_reducible first | exact HB.out | apply below_alloc | apply pw_below_drewN | apply below_drew1) | exact HB.out)) hb); clear HB; have HB := n0_; clear n0_; (try clear hb); (try clear hb2); (try clear hk); (try clear hi)) | (go_at_call 31; (with_reducible refine (dns_Name.calls kj8 ((a0 ++ (⟨#[46]⟩ : ByteArray)) ++ a1) t125 _ A35.out).mono ?_); rintro e w44 ⟨rfl, hb⟩; have n0_ := Aside0.mk (below_step (by repeat (first | (with_reducible first | exact HB.out | apply below_alloc | apply pw_below_drewN | apply below_drew1) | exact HB.out)) hb); clear HB; have HB := n0_; clear n0_; (try clear hb); (try clear hb2); (try clear hk); (try clear hi)) | (go_at_call 31; (with_reducible refine (dns_Name.calls kj8 a0 false _ A36.out).mono ?_); rintro e w45 ⟨rfl, hb⟩; have n0_ := Aside0.mk (below_step (by repeat (first | (with_reducible first | exact HB.out | apply below_alloc | apply pw_below_drewN | apply below_drew1) | exact HB.out)) hb); clear HB; have HB := n0_; clear n0_; (try clear hb); (try clear hb2); (try clear hk); (try clear hi)))
                      go_ret
                      exact ⟨by first | rfl | (simp [errW_none, errW_some] <;> rfl) | (simp [*, errW_none, errW_some] <;> rfl), by repeat (first | (with_reducible first | exact HB.out | apply below_alloc | apply pw_below_drewN | apply below_drew1) | exact HB.out)⟩
                · replace c32 := Bool.eq_false_iff.mpr c32
                  subst c32
                  have H1 : (some false) = some r := by rw [if_neg (show ¬ (false = true) by decide)] at H; exact H
                  clear H
                  have H := H1
                  clear H1
                  obtain rfl := Option.some.inj H
                  go_wp2_with (first | ((with_reducible refine gate_callee (f := 30) rfl ?_); refine goesL_ (some 56) rfl rfl Tryd.func30 (by kernel_rfl) rfl #[] rfl (by (try simp only [List.map_toArray, List.map_cons, List.map_nil]); first | done | rfl | (simp only [List.length_drop, List.length_take]; rfl) | (simp (disch := first | omega | (simp at *; omega)) only [u64_id, i64_id, u8_id]; rfl)) ?_; (with_reducible refine (bosunlaw13_Awake.calls kj8  false _ A31.out).mono ?_); rintro e w46 ⟨rfl, hb⟩; refine ⟨_, rfl, ?_⟩; have n0_ := Aside0.mk (below_step (by repeat (first | (with_reducible first | exact HB.out | apply below_alloc | apply pw_below_drewN | apply below_drew1) | exact HB.out)) hb); clear HB; have HB := n0_; clear n0_; (try clear hb); (try clear hb2); (try clear hk); (try clear hi)))
                  go_ret
                  exact ⟨by first | rfl | (simp [errW_none, errW_some] <;> rfl) | (simp [*, errW_none, errW_some] <;> rfl), by repeat (first | (with_reducible first | exact HB.out | apply below_alloc | apply pw_below_drewN | apply below_drew1) | exact HB.out)⟩
              · rw [if_neg c30] at H
                exact absurd H (by simp)
            · rw [if_neg c29] at H
              exact absurd H (by simp)

end Go.Proofs.YtenbeniaohigmaaDoor.GDns
