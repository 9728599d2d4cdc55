/- spec.Pod.Same: its contract, in terms of plain functions. No conditions beside those stated. -/
import Derived.Test.YtpncpefppifgdaaGreatDoorGUtx19
namespace Go.Proofs.YtpncpefppifgdaaGreatDoor.GUt
open Go.RowKit Go.Proofs.YtpncpefppifgdaaGreatDoorW.PrintWords Go.Proofs.YtpncpefppifgdaaGreatDoorW.PrintLast Go.Proofs.YtpncpefppifgdaaGreatDoorW.PrintMore
set_option linter.unusedVariables false
set_option linter.unusedSimpArgs false
def yH (k : Nat) (p q : S84) : Option Bool := dS.f k p.f0 p.f1 p.f2 p.f3 p.f4 p.f5 p.f6 q.f0 q.f1 q.f2 q.f3 q.f4 q.f5 q.f6
def lZ (k : Nat) : List S84 → List S84 → Option Bool
  | p :: ps, q :: qs => (yH k p q).bind fun b => if b = true then lZ k ps qs else some false
  | _, _ => some true
theorem oO (k : Nat) : ∀ l m, LeO (lZ k l m) (lZ (k + 1) l m)
  | [], [] => LeO.refl _
  | [], _ :: _ => LeO.refl _
  | _ :: _, [] => LeO.refl _
  | p :: ps, q :: qs => LeO.bind (dS.mono _ _ _ _ _ _ _ _ _ _ _ _ _ _ k) fun b => LeO.ite (oO k ps qs) (LeO.refl _)
def nI (k : Nat) (l m : List S84) : Option Bool := if l.length = m.length then lZ k l m else some false
def fE.f (k : Nat) (BD BF : ByteArray) (BG BH : Int) (BI : Bool) (Bw : List S84) (BJ BK : ByteArray) (BL BN : Int) (BO : Bool) (Bz : List S84) : Option Bool :=
  if BD.toList = BJ.toList then (if BF.toList = BK.toList then (if BG = BL then (if BH = BN then (if BI = BO then nI k Bw Bz else some false) else some false) else some false) else some false) else some false
theorem fE.mono : ∀ a0 a1 a2 a3 a4 a5 b0 b1 b2 b3 b4 b5 k, LeO (fE.f k a0 a1 a2 a3 a4 a5 b0 b1 b2 b3 b4 b5) (fE.f (k + 1) a0 a1 a2 a3 a4 a5 b0 b1 b2 b3 b4 b5) := fun a0 a1 a2 a3 a4 a5 b0 b1 b2 b3 b4 b5 k =>
  LeO.ite (LeO.ite (LeO.ite (LeO.ite (LeO.ite (LeO.ite (oO k _ _) (LeO.refl _)) (LeO.refl _)) (LeO.refl _)) (LeO.refl _)) (LeO.refl _)) (LeO.refl _)
set_option maxHeartbeats 8000000 in
set_option maxRecDepth 100000 in
theorem nI.calls (k : Nat) (A0 : Option Addr) (c0 : Nat) (l0 : List S84) (A1 : Option Addr) (c1 : Nat) (l1 : List S84) (r : Bool) (w : World) (hr0 : Kd.C k84 w A0 l0.length l0) (hr1 : Kd.C k84 w A1 l1.length l1) (hR : nI k l0 l1 = some r) :
    Calls Tryz.prog 84 #[.slice A0 l0.length c0, .slice A1 l1.length c1, .func (.func 85) #[] #[]] w fun e w' => e = .returned (.bool r) ∧ Below w.heap.size w w' := by
  unfold nI at hR
  go_enter Tryz.func84, Tryz.ntmps84
  by_cases hlen : l0.length = l1.length
  · rw [if_pos hlen] at hR
    have hne : ((l0.length : Int) != (l1.length : Int)) = false := by rw [hlen]; simp
    have HL := Aside0.mk hlen
    have Cv := Aside0.mk hr0
    have HR1 := Aside0.mk hr1
    have HR := Aside0.mk hR
    clear hlen hr0 hr1 hR
    go_wp2
    go_loopg [17] l0.length (fun kq v17 w' => ∃ (i : Nat), v17 = .int .i64 (i : Int) ∧ Aside0 (i + kq = l0.length) ∧ Aside0 (lZ k (l0.drop i) (l1.drop i) = some r) ∧ Aside0 (Below w.heap.size w w'))
    case atStart => exact ⟨0, rfl, ⟨by omega⟩, HR, ⟨Below.refl _ w⟩⟩
    case round =>
      clear HR
      obtain ⟨i, rfl, hi, hE, B⟩ := hrel
      cases gk with
      | zero =>
        have hend : decide ((i : Int) < (l0.length : Int)) = false := decide_eq_false (by have := hi.out; omega)
        have Cw : decide (i < l0.length) = false := decide_eq_false (by have := hi.out; omega)
        have Cx : (i < l0.length) = False := eq_false (by have := hi.out; omega)
        have hE' := hE.out
        rw [List.drop_eq_nil_of_le (by have := hi.out; omega), List.drop_eq_nil_of_le (by have := hi.out; have := HL.out; omega)] at hE'
        have hE2 : (some true : Option Bool) = some r := hE'
        obtain rfl := Option.some.inj hE2
        go_wp2
        go_ret
        exact ⟨rfl, B.out⟩
      | succ k1 =>
        have hlt : i < l0.length := by have := hi.out; omega
        have c1 : decide ((i : Int) < (l0.length : Int)) = true := decide_eq_true (by omega)
        have p1 : 0 ≤ (i : Int) := by omega
        have q1 : (i : Int) < (l0.length : Int) := by omega
        have q2 : (i : Int) < (l1.length : Int) := by have := HL.out; omega
        obtain ⟨ad, A2, c2, A3, c3, A6, c6, e, hx0, hx1, hx2, hx3, hx4, hx5, hx6, Cg, Ch, Ci, Cj, Ck, Cm⟩ := kF Cv.out (i : Int) p1 q1
        cases e
        obtain ⟨bd, B2, d2, B3, d3, B6, d6, e, hy0, hy1, hy2, hy3, hy4, Ca, Cb, Cn, Co, Cq, Cr, Ct, Cu⟩ := kF HR1.out (i : Int) p1 q2
        cases e
        replace hx0 := (B.out.cell (World.block_lt_of_cell? w _ hx0)).trans hx0
        replace hx1 := (B.out.cell (World.block_lt_of_cell? w _ hx1)).trans hx1
        replace hx2 := (B.out.cell (World.block_lt_of_cell? w _ hx2)).trans hx2
        replace hx3 := (B.out.cell (World.block_lt_of_cell? w _ hx3)).trans hx3
        replace hx4 := (B.out.cell (World.block_lt_of_cell? w _ hx4)).trans hx4
        replace hx5 := (B.out.cell (World.block_lt_of_cell? w _ hx5)).trans hx5
        replace hx6 := (B.out.cell (World.block_lt_of_cell? w _ hx6)).trans hx6
        replace hy0 := (B.out.cell (World.block_lt_of_cell? w _ hy0)).trans hy0
        replace hy1 := (B.out.cell (World.block_lt_of_cell? w _ hy1)).trans hy1
        replace hy2 := (B.out.cell (World.block_lt_of_cell? w _ hy2)).trans hy2
        replace hy3 := (B.out.cell (World.block_lt_of_cell? w _ hy3)).trans hy3
        replace hy4 := (B.out.cell (World.block_lt_of_cell? w _ hy4)).trans hy4
        replace Ca := (B.out.cell (World.block_lt_of_cell? w _ Ca)).trans Ca
        replace Cb := (B.out.cell (World.block_lt_of_cell? w _ Cb)).trans Cb
        simp only [Int.toNat_natCast] at hx0 hx1 hx2 hx3 hx4 hx5 hx6 hy0 hy1 hy2 hy3 hy4 Ca Cb
        have hE1 := hE.out
        have hlt1 : i < l1.length := by rw [← HL.out]; exact hlt
        rw [List.drop_eq_getElem_cons hlt, List.drop_eq_getElem_cons hlt1, show l0[i] = au l0 (i : Int) by simp [au, List.getElem?_eq_getElem hlt], show l1[i] = au l1 (i : Int) by simp [au, List.getElem?_eq_getElem hlt1], lZ] at hE1
        generalize au l0 (i : Int) = p at hx0 hx1 hx2 hx3 hx4 hx5 hx6 Cg Ch Ci Cj Ck Cm hE1
        generalize au l1 (i : Int) = q at hy0 hy1 hy2 hy3 hy4 Ca Cb Cn Co Cq Cr Ct Cu hE1
        replace p1 := eq_true p1
        replace q1 := eq_true q1
        replace q2 := eq_true q2
        have q3 : (i < l0.length) = True := eq_true hlt
        have q4 : (i < l1.length) = True := eq_true hlt1
        obtain ⟨b, hb, hE1⟩ := Option.bind_eq_some_iff.1 hE1
        have HK := Aside0.mk hb
        have HP := Aside0.mk (⟨Cg, Ch, Ci, Cj, Ck, Cm⟩ : _ ∧ _ ∧ _ ∧ _ ∧ _ ∧ _)
        have HQ := Aside0.mk (⟨Cn, Co, Cq, Cr, Ct, Cu⟩ : _ ∧ _ ∧ _ ∧ _ ∧ _ ∧ _)
        have HE := Aside0.mk hE1
        clear hb hE1 hE Cg Ch Ci Cj Ck Cm Cn Co Cq Cr Ct Cu
        have hwv : Value.int .i64 (wrap64 ((i : Int) + 1)) = Value.int .i64 ((i + 1 : Nat) : Int) := by have := Kd.jX Cv.out; rw [bW (by omega) (by omega)]; rfl
        have hnx : Aside0 (i + 1 + k1 = l0.length) := ⟨by have := hi.out; omega⟩
        have Ba := (Below.refl wr.heap.size wr).alloc (Nat.le_refl _) (.cells #[.string p.f0, .string p.f1, .slice A2 p.f2.length c2, .slice A3 p.f3.length c3, .int .i64 p.f4, .int .i64 p.f5, .slice A6 p.f6.length c6] 84)
        have hz0 := (Ba.cell (World.block_lt_of_cell? wr _ hy0)).trans hy0
        have hz1 := (Ba.cell (World.block_lt_of_cell? wr _ hy1)).trans hy1
        have hz2 := (Ba.cell (World.block_lt_of_cell? wr _ hy2)).trans hy2
        have hz3 := (Ba.cell (World.block_lt_of_cell? wr _ hy3)).trans hy3
        have CB := (Ba.cell (World.block_lt_of_cell? wr _ hy4)).trans hy4
        have CF := (Ba.cell (World.block_lt_of_cell? wr _ Ca)).trans Ca
        have CG := (Ba.cell (World.block_lt_of_cell? wr _ Cb)).trans Cb
        clear Ba
        have hcl := fun (wz : World) (a2 : Kd.C Kd.string wz A2 p.f2.length p.f2) (a3 : Kd.C jG wz A3 p.f3.length p.f3) (a6 : Kd.C jH wz A6 p.f6.length p.f6) (b2 : Kd.C Kd.string wz B2 q.f2.length q.f2) (b3 : Kd.C jG wz B3 q.f3.length q.f3) (b6 : Kd.C jH wz B6 q.f6.length q.f6) => dS.calls k p.f0 p.f1 A2 c2 p.f2 A3 c3 p.f3 p.f4 p.f5 A6 c6 p.f6 q.f0 q.f1 B2 d2 q.f2 B3 d3 q.f3 q.f4 q.f5 B6 d6 q.f6 b wz a2 HP.out.1 a3 HP.out.2.2.1 a6 HP.out.2.2.2.2.1 b2 HQ.out.1 b3 HQ.out.2.2.1 b6 HQ.out.2.2.2.2.1 HK.out
        cases b with
        | false =>
          have hE2 : (some false : Option Bool) = some r := HE.out
          obtain rfl := Option.some.inj hE2
          clear hE2
          go_wp2_with (first | (go_at_call 85; refine (hcl _ (Kd.bH (Kd.bH (Kd.bJ HP.out.2.1 B.out) _) _) (Kd.bH (Kd.bH (Kd.bJ HP.out.2.2.2.1 B.out) _) _) (Kd.bH (Kd.bH (Kd.bJ HP.out.2.2.2.2.2 B.out) _) _) (Kd.bH (Kd.bH (Kd.bJ HQ.out.2.1 B.out) _) _) (Kd.bH (Kd.bH (Kd.bJ HQ.out.2.2.2.1 B.out) _) _) (Kd.bH (Kd.bH (Kd.bJ HQ.out.2.2.2.2.2 B.out) _) _)).mono ?_; rintro e w4 ⟨rfl, hb4⟩))
          go_ret
          exact ⟨rfl, ((B.out.alloc B.out.size _).alloc (by have := B.out.size; simp; omega) _).trans (hb4.mono (by have := B.out.size; simp; omega))⟩
        | true =>
          have hE2 : lZ k (l0.drop (i + 1)) (l1.drop (i + 1)) = some r := HE.out
          have Cy := Aside0.mk hE2
          clear hE2 HE
          go_wp2_with (first | (go_at_call 85; refine (hcl _ (Kd.bH (Kd.bH (Kd.bJ HP.out.2.1 B.out) _) _) (Kd.bH (Kd.bH (Kd.bJ HP.out.2.2.2.1 B.out) _) _) (Kd.bH (Kd.bH (Kd.bJ HP.out.2.2.2.2.2 B.out) _) _) (Kd.bH (Kd.bH (Kd.bJ HQ.out.2.1 B.out) _) _) (Kd.bH (Kd.bH (Kd.bJ HQ.out.2.2.2.1 B.out) _) _) (Kd.bH (Kd.bH (Kd.bJ HQ.out.2.2.2.2.2 B.out) _) _)).mono ?_; rintro e w4 ⟨rfl, hb4⟩))
          go_roundg k1
          case measure => exact Nat.lt_succ_self k1
          case rel => exact ⟨i + 1, by first | exact hwv | rfl, hnx, Cy, ⟨((B.out.alloc B.out.size _).alloc (by have := B.out.size; simp; omega) _).trans (hb4.mono (by have := B.out.size; simp; omega))⟩⟩
  · rw [if_neg hlen] at hR
    obtain rfl := Option.some.inj hR
    have hne : ((l0.length : Int) != (l1.length : Int)) = true := by simp; omega
    go_wp2
    go_ret
    exact ⟨rfl, Below.refl _ w⟩
set_option maxHeartbeats 8000000 in
set_option maxRecDepth 100000 in
theorem fE.calls (k : Nat) (BD BF : ByteArray) (BG BH : Int) (BI : Bool) (BP : Option Addr) (BQ : Nat) (Bw : List S84) (BJ BK : ByteArray) (BL BN : Int) (BO : Bool) (BR : Option Addr) (BS : Nat) (Bz : List S84) (r : Bool) (w : World) (BU : Kd.C k84 w BP Bw.length Bw) (Cc : Bw.length ≤ BQ) (BZ : Kd.C k84 w BR Bz.length Bz) (Ce : Bz.length ≤ BS) (h : fE.f k BD BF BG BH BI Bw BJ BK BL BN BO Bz = some r) :
    Calls Tryz.prog 57 #[.agg #[.string BD, .string BF, .int .i64 BG, .int .i64 BH, .bool BI, .slice BP Bw.length BQ], .agg #[.string BJ, .string BK, .int .i64 BL, .int .i64 BN, .bool BO, .slice BR Bz.length BS]] w fun e w' => e = .returned (.bool r) ∧ Below w.heap.size w w' := by
  have Cz := Tryz.underlying77
  have BB := ((Below.refl _ w).alloc (Nat.le_refl _) (.cells #[.string BD, .string BF, .int .i64 BG, .int .i64 BH, .bool BI, .slice BP Bw.length BQ] 77)).alloc (by simp) (.cells #[.string BJ, .string BK, .int .i64 BL, .int .i64 BN, .bool BO, .slice BR Bz.length BS] 77)
  have HB := Aside0.mk BB
  have H5 := Aside0.mk BU
  have G5 := Aside0.mk BZ
  clear BB BU BZ Cc Ce
  unfold fE.f at h
  go_enter Tryz.func57, Tryz.ntmps57
  by_cases e0 : BD.toList = BJ.toList
  case neg =>
    rw [if_neg e0] at h
    obtain rfl := Option.some.inj h
    have f0 : (BD.toList == BJ.toList) = false := beq_eq_false_iff_ne.2 e0
    clear e0
    go_wp2; go_ret; exact ⟨rfl, HB.out⟩
  rw [if_pos e0] at h
  have f0 : (BD.toList == BJ.toList) = true := beq_iff_eq.2 e0
  clear e0
  by_cases e1 : BF.toList = BK.toList
  case neg =>
    rw [if_neg e1] at h
    obtain rfl := Option.some.inj h
    have f1 : (BF.toList == BK.toList) = false := beq_eq_false_iff_ne.2 e1
    clear e1
    go_wp2; go_ret; exact ⟨rfl, HB.out⟩
  rw [if_pos e1] at h
  have f1 : (BF.toList == BK.toList) = true := beq_iff_eq.2 e1
  clear e1
  by_cases e2 : BG = BL
  case neg =>
    rw [if_neg e2] at h
    obtain rfl := Option.some.inj h
    have f2 : (BG == BL) = false := beq_eq_false_iff_ne.2 e2
    clear e2
    go_wp2; go_ret; exact ⟨rfl, HB.out⟩
  rw [if_pos e2] at h
  have f2 : (BG == BL) = true := beq_iff_eq.2 e2
  clear e2
  by_cases e3 : BH = BN
  case neg =>
    rw [if_neg e3] at h
    obtain rfl := Option.some.inj h
    have f3 : (BH == BN) = false := beq_eq_false_iff_ne.2 e3
    clear e3
    go_wp2; go_ret; exact ⟨rfl, HB.out⟩
  rw [if_pos e3] at h
  have f3 : (BH == BN) = true := beq_iff_eq.2 e3
  clear e3
  by_cases e4 : BI = BO
  case neg =>
    rw [if_neg e4] at h
    obtain rfl := Option.some.inj h
    have f4 : (BI == BO) = false := beq_eq_false_iff_ne.2 e4
    clear e4
    go_wp2; go_ret; exact ⟨rfl, HB.out⟩
  rw [if_pos e4] at h
  have f4 : (BI == BO) = true := beq_iff_eq.2 e4
  clear e4
  have HH := Aside0.mk h
  clear h
  go_wp2_with (first | (go_at_call 84; refine (nI.calls k BP BQ Bw BR BS Bz r _ (Kd.bH (Kd.bH H5.out _) _) (Kd.bH (Kd.bH G5.out _) _) HH.out).mono ?_; rintro e w4 ⟨rfl, hb4⟩))
  go_ret
  exact ⟨rfl, HB.out.trans (hb4.mono HB.out.size)⟩
end Go.Proofs.YtpncpefppifgdaaGreatDoor.GUt
