/- ckone.State.Same: its contract, in terms of plain functions. No conditions beside those stated. -/
import Derived.Test.YtpmbdcljphpcnaaDoorGCkx0
namespace Go.Proofs.YtpmbdcljphpcnaaDoor.GCk
open Go.RowKit Go.Proofs.YtpmbdcljphpcnaaDoorW.PrintWords Go.Proofs.YtpmbdcljphpcnaaDoorW.PrintLast Go.Proofs.YtpmbdcljphpcnaaDoorW.PrintMore
set_option linter.unusedVariables false

theorem eqA66c (d : Nat) (w : World) (x0 y0 : ByteArray) (x1 y1 : ByteArray) (x2 y2 : ByteArray) (x3 y3 : Int) :
    (Op.equalIn (d + 2) 66 (.agg #[.string x0, .string x1, .string x2, .int .u8 x3]) (.agg #[.string y0, .string y1, .string y2, .int .u8 y3])).run Tryd.prog w = .ok (x0.toList == y0.toList && (x1.toList == y1.toList && (x2.toList == y2.toList && (x3 == y3)))) w := by
  refine eqA_of Tryd.underlying66 (by kernel_rfl) ?_
  refine eqf_cons (by rfl) (by go_simp; rfl) (by go_simp; rfl) (by go_simp) ?_
  refine eqf_cons (by rfl) (by go_simp; rfl) (by go_simp; rfl) (by go_simp) ?_
  refine eqf_cons (by rfl) (by go_simp; rfl) (by go_simp; rfl) (by go_simp) ?_
  exact eqf_last (by rfl) (by go_simp; rfl) (by go_simp; rfl) (by go_simp)
attribute [local go_sem high] eqA66c
/-- Are two pods alike? -/
def eqP (p q : S66) : Bool := p.f0.toList == q.f0.toList && (p.f1.toList == q.f1.toList && (p.f2.toList == q.f2.toList && (p.f3 == q.f3)))
def eqL : List S66 → List S66 → Bool
  | [], [] => true
  | p :: ps, q :: qs => eqP p q && eqL ps qs
  | _, _ => false
def ckone_State_Same.f (a0_0 : Int) (l0_1 : List S66) (a1_0 : Int) (l1_1 : List S66) : Option Bool := some (a0_0 == a1_0 && eqL l0_1 l1_1)
theorem eqL_len : ∀ l m : List S66, eqL l m = true → l.length = m.length
  | [], [], _ => rfl
  | p :: ps, q :: qs, h => by
    rw [eqL, Bool.and_eq_true] at h
    rw [List.length_cons, List.length_cons, eqL_len ps qs h.2]
  | [], _ :: _, h => by cases h
  | _ :: _, [], h => by cases h
set_option maxHeartbeats 1000000 in
theorem samePod.calls (p q : S66) (w : World) : Calls Tryd.prog 46 #[.agg #[.string p.f0, .string p.f1, .string p.f2, .int .u8 p.f3], .agg #[.string q.f0, .string q.f1, .string q.f2, .int .u8 q.f3]] w fun e w' => e = .returned (.bool (eqP p q)) ∧ Below w.heap.size w w' := by
  go_enter Tryd.func46, Tryd.ntmps46
  go_wp2
  go_ret
  exact ⟨rfl, ((Below.refl _ w).alloc (Nat.le_refl _) _).alloc (by simp) _⟩
set_option maxHeartbeats 4000000 in
set_option maxRecDepth 100000 in
theorem sameAll.calls (A0 : Option Addr) (c0 : Nat) (l0 : List S66) (A1 : Option Addr) (c1 : Nat) (l1 : List S66) (w : World) (hr0 : Kd.C k66 w A0 l0.length l0) (hc0 : l0.length ≤ c0) (hr1 : Kd.C k66 w A1 l1.length l1) (hc1 : l1.length ≤ c1) :
    Calls Tryd.prog 45 #[.slice A0 l0.length c0, .slice A1 l1.length c1, .func (.func 46) #[] #[]] w fun e w' => e = .returned (.bool (eqL l0 l1)) ∧ Below w.heap.size w w' := by
  obtain ⟨r, hR⟩ : ∃ r, eqL l0 l1 = r := ⟨_, rfl⟩
  rw [hR]
  go_enter Tryd.func45, Tryd.ntmps45
  by_cases hlen : l0.length = l1.length
  · have hne : ((l0.length : Int) != (l1.length : Int)) = false := by rw [hlen]; simp
    have HL := Aside0.mk hlen
    clear hlen
    go_wp2
    go_loopg [17] l0.length (fun kq v17 w' => ∃ (i : Nat), v17 = .int .i64 (i : Int) ∧ Aside0 (i + kq = l0.length) ∧ Aside0 (eqL (l0.drop i) (l1.drop i) = r) ∧ Aside0 (Below w.heap.size w w'))
    case atStart => exact ⟨0, rfl, ⟨by omega⟩, ⟨hR⟩, ⟨Below.refl _ w⟩⟩
    case round =>
      obtain ⟨i, rfl, hi, hE, B⟩ := hrel
      cases gk with
      | zero =>
        have hend : decide ((i : Int) < (l0.length : Int)) = false := decide_eq_false (by have := hi.out; omega)
        have hend2 : decide (i < l0.length) = false := decide_eq_false (by have := hi.out; omega)
        have hend3 : (i < l0.length) = False := eq_false (by have := hi.out; omega)
        have hE' := hE.out
        rw [List.drop_eq_nil_of_le (by have := hi.out; omega), List.drop_eq_nil_of_le (by have := hi.out; have := HL.out; omega)] at hE'
        have hr : true = r := hE'
        subst hr
        go_wp2
        go_ret
        exact ⟨rfl, B.out⟩
      | succ k1 =>
        have hlt : i < l0.length := by have := hi.out; omega
        have c1 : decide ((i : Int) < (l0.length : Int)) = true := decide_eq_true (by omega)
        have p1 : 0 ≤ (i : Int) := by omega
        have q1 : (i : Int) < (l0.length : Int) := by omega
        have q2 : (i : Int) < (l1.length : Int) := by have := HL.out; omega
        obtain ⟨ad, e, hx0, hx1, hx2, hx3⟩ := at_T66 hr0 (i : Int) p1 q1
        cases e
        obtain ⟨bd, e, hy0, hy1, hy2, hy3⟩ := at_T66 hr1 (i : Int) p1 q2
        cases e
        replace hx0 := (B.out.cell (World.block_lt_of_cell? w _ hx0)).trans hx0
        replace hx1 := (B.out.cell (World.block_lt_of_cell? w _ hx1)).trans hx1
        replace hx2 := (B.out.cell (World.block_lt_of_cell? w _ hx2)).trans hx2
        replace hx3 := (B.out.cell (World.block_lt_of_cell? w _ hx3)).trans hx3
        replace hy0 := (B.out.cell (World.block_lt_of_cell? w _ hy0)).trans hy0
        replace hy1 := (B.out.cell (World.block_lt_of_cell? w _ hy1)).trans hy1
        replace hy2 := (B.out.cell (World.block_lt_of_cell? w _ hy2)).trans hy2
        replace hy3 := (B.out.cell (World.block_lt_of_cell? w _ hy3)).trans hy3
        simp only [Int.toNat_natCast] at hx0 hx1 hx2 hx3 hy0 hy1 hy2 hy3
        have hE1 := hE.out
        have hlt1 : i < l1.length := by rw [← HL.out]; exact hlt
        rw [List.drop_eq_getElem_cons hlt, List.drop_eq_getElem_cons hlt1, show l0[i] = rd_T66 l0 (i : Int) by simp [rd_T66, List.getElem?_eq_getElem hlt], show l1[i] = rd_T66 l1 (i : Int) by simp [rd_T66, List.getElem?_eq_getElem (hlt1)], eqL] at hE1
        generalize rd_T66 l0 (i : Int) = p at hx0 hx1 hx2 hx3 hE1
        generalize rd_T66 l1 (i : Int) = q at hy0 hy1 hy2 hy3 hE1
        replace p1 := eq_true p1
        replace q1 := eq_true q1
        replace q2 := eq_true q2
        have q3 : (i < l0.length) = True := eq_true hlt
        have q4 : (i < l1.length) = True := eq_true hlt1
        have Ba := (Below.refl wr.heap.size wr).alloc (Nat.le_refl _) (.cells #[.string p.f0, .string p.f1, .string p.f2, .int .u8 p.f3] 66)
        have hz0 := (Ba.cell (World.block_lt_of_cell? wr _ hy0)).trans hy0
        have hz1 := (Ba.cell (World.block_lt_of_cell? wr _ hy1)).trans hy1
        have hz2 := (Ba.cell (World.block_lt_of_cell? wr _ hy2)).trans hy2
        have hz3 := (Ba.cell (World.block_lt_of_cell? wr _ hy3)).trans hy3
        clear Ba
        cases hpq : eqP p q with
        | false =>
          rw [hpq, Bool.false_and] at hE1
          subst hE1
          have hcl := samePod.calls p q
          rw [hpq] at hcl
          go_wp2_with (first | (go_at_call 46; refine (hcl _).mono ?_; rintro e w4 ⟨rfl, hb4⟩))
          go_ret
          exact ⟨rfl, ((B.out.alloc B.out.size _).alloc (by have := B.out.size; simp; omega) _).trans (hb4.mono (by have := B.out.size; simp; omega))⟩
        | true =>
          rw [hpq, Bool.true_and] at hE1
          have hcl := samePod.calls p q
          rw [hpq] at hcl
          have hmx : l0.length ≤ 9223372036854775807 := Kd.C_max hr0
          have hw : wrap64 ((i : Int) + 1) = ((i + 1 : Nat) : Int) := by rw [i64_id (by omega) (by omega)]; omega
          have hwv := congrArg (Value.int .i64) hw
          have hnx : Aside0 (i + 1 + k1 = l0.length) := ⟨by have := hi.out; omega⟩
          clear hw hmx
          go_wp2_with (first | (go_at_call 46; refine (hcl _).mono ?_; rintro e w4 ⟨rfl, hb4⟩))
          go_roundg k1
          case measure => exact Nat.lt_succ_self k1
          case rel => exact ⟨i + 1, hwv, hnx, ⟨hE1⟩, ⟨((B.out.alloc B.out.size _).alloc (by have := B.out.size; simp; omega) _).trans (hb4.mono (by have := B.out.size; simp; omega))⟩⟩
  · have hne : ((l0.length : Int) != (l1.length : Int)) = true := by simp; omega
    have hf : false = r := by
      cases h : eqL l0 l1 with
      | false => rw [← hR, h]
      | true => exact absurd (eqL_len _ _ h) hlen
    subst hf
    go_wp2
    go_ret
    exact ⟨rfl, Below.refl _ w⟩
set_option maxHeartbeats 4000000 in
set_option maxRecDepth 100000 in
theorem ckone_State_Same.calls (a0_0 : Int) (A0_1 : Option Addr) (c0_1 : Nat) (l0_1 : List S66) (a1_0 : Int) (A1_1 : Option Addr) (c1_1 : Nat) (l1_1 : List S66) (r : Bool) (w : World) (hr0_1 : Kd.C k66 w A0_1 l0_1.length l0_1) (hc0_1 : l0_1.length ≤ c0_1) (hr1_1 : Kd.C k66 w A1_1 l1_1.length l1_1) (hc1_1 : l1_1.length ≤ c1_1) (h : ckone_State_Same.f a0_0 l0_1 a1_0 l1_1 = some r) :
    Calls Tryd.prog 16 #[.agg #[.int .u32 a0_0, .slice A0_1 l0_1.length c0_1], .agg #[.int .u32 a1_0, .slice A1_1 l1_1.length c1_1]] w fun e w' => e = .returned (.bool r) ∧ Below w.heap.size w w' := by
  have hr := Option.some.inj h
  subst hr
  go_enter Tryd.func16, Tryd.ntmps16
  by_cases he : a0_0 = a1_0
  · have hc : (a0_0 == a1_0) = true := beq_iff_eq.2 he
    rw [hc, Bool.true_and]
    go_wp2_with (first | (go_at_call 45; refine (sameAll.calls A0_1 c0_1 l0_1 A1_1 c1_1 l1_1 _ (Kd.C_alloc (Kd.C_alloc hr0_1 _) _) hc0_1 (Kd.C_alloc (Kd.C_alloc hr1_1 _) _) hc1_1).mono ?_; rintro e w4 ⟨rfl, hb4⟩))
    go_ret
    exact ⟨rfl, (((Below.refl _ w).alloc (Nat.le_refl _) _).alloc (by simp) _).trans (hb4.mono (by simp; omega))⟩
  · have hc : (a0_0 == a1_0) = false := beq_eq_false_iff_ne.2 he
    rw [hc, Bool.false_and]
    go_wp2
    go_ret
    exact ⟨rfl, ((Below.refl _ w).alloc (Nat.le_refl _) _).alloc (by simp) _⟩
end Go.Proofs.YtpmbdcljphpcnaaDoor.GCk
