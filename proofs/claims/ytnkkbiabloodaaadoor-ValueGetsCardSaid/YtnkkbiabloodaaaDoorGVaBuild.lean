/- law05's Build: its contract. No conditions beside those stated. -/
import Derived.Test.YtnkkbiabloodaaaDoorVaBld0
namespace Go.Proofs.YtnkkbiabloodaaaDoor.GVa
open Go.RowKit Go.Proofs.YtnkkbiabloodaaaDoorW.PrintWords Go.Proofs.YtnkkbiabloodaaaDoorW.PrintLast Go.Proofs.YtnkkbiabloodaaaDoorW.PrintMore
attribute [local go_sem] fG fH fV fZ eO eP fI fJ
set_option linter.unusedVariables false
set_option linter.unusedSimpArgs false
def aZ.T23 : Bool × List (List Nat × List Nat) := (true, [([], []), ([], []), ([1], [1]), ([2], [2]), ([0, 3], [0, 3]), ([4], [4]), ([], []), ([], []), ([7], [7]), ([8], [8]), ([6, 9], [6, 9]), ([10], [10]), ([5, 0, 1, 2, 3, 4, 5], [5]), ([11, 12, 0, 1, 2, 3, 4, 5, 6, 7, 8, 9, 10, 11, 12], [11])])
def aZ.B23 : List Nat := [0, 0, 2, 6, 15, 31, 0, 0, 128, 384, 960, 1984, 63, 8191]
theorem aZ.wV : gW .any (opsOf Tryd.f10 23) = aZ.T23 := by kernel_rfl
theorem aZ.vS : gF aZ.T23.2 aZ.B23 = true := by kernel_rfl
def aZ.T14 : Bool × List (List Nat × List Nat) := (true, [([], []), ([], []), ([1], [1]), ([], []), ([2, 3], [2, 3]), ([], []), ([4, 5], [4, 5]), ([0, 6], [0, 6]), ([7], [7]), ([], []), ([], []), ([10], [10]), ([], []), ([11, 12], [11, 12]), ([], []), ([13, 14], [13, 14]), ([9, 15], [9, 15]), ([16], [16]), ([], []), ([], []), ([18, 8, 0, 1, 2, 3, 4, 5, 6, 7, 8, 18, 19], [8, 18]), ([19, 17, 20, 0, 1, 2, 3, 4, 5, 6, 7, 8, 9, 10, 11, 12, 13, 14, 15, 16, 17, 18, 19, 20], [17, 19])])
def aZ.B14 : List Nat := [0, 0, 2, 0, 14, 0, 62, 127, 255, 0, 0, 1024, 0, 7168, 0, 31744, 65024, 130560, 0, 0, 786943, 2097151]
theorem aZ.wW : gW .any (opsOf Tryd.f10 14) = aZ.T14 := by kernel_rfl
theorem aZ.vT : gF aZ.T14.2 aZ.B14 = true := by kernel_rfl
def aZ.T16 : Bool × List (List Nat × List Nat) := (true, [([], []), ([0], [0]), ([], []), ([2], [2]), ([1, 3], [1, 3]), ([], []), ([5], [5]), ([], []), ([7], [7]), ([6, 8, 4], [6, 8]), ([0, 1, 2, 3, 4], []), ([10, 4, 9, 0, 1, 2, 3, 4], [4, 10]), ([0, 1, 2, 3, 4, 5, 6, 7, 8, 9, 10, 11], []), ([12, 9, 11, 0, 1, 2, 3, 4, 5, 6, 7, 8, 9, 10, 11], [9, 12])])
def aZ.B16 : List Nat := [0, 1, 0, 4, 15, 0, 32, 0, 128, 511, 31, 2047, 4095, 8191]
theorem aZ.wX : gW .any (opsOf Tryd.f10 16) = aZ.T16 := by kernel_rfl
theorem aZ.vU : gF aZ.T16.2 aZ.B16 = true := by kernel_rfl
def aZ.T17 : Bool × List (List Nat × List Nat) := (true, [([], []), ([0], [0]), ([], []), ([], []), ([2, 3], [2, 3]), ([], []), ([4, 5], [4, 5]), ([6], [6]), ([1, 7, 4], [1, 7]), ([], []), ([9], [9]), ([], []), ([], []), ([11, 12, 8], [11, 12]), ([], []), ([13, 14], [13, 14]), ([15], [15]), ([10, 16, 13], [10, 16]), ([0, 1, 2, 3, 4, 5, 6, 7, 8], []), ([18, 8, 17, 0, 1, 2, 3, 4, 5, 6, 7, 8], [8, 18]), ([0, 1, 2, 3, 4, 5, 6, 7, 8, 9, 10, 11, 12, 13, 14, 15, 16, 17, 18, 19], []), ([20, 17, 19, 0, 1, 2, 3, 4, 5, 6, 7, 8, 9, 10, 11, 12, 13, 14, 15, 16, 17, 18, 19], [17, 20])])
def aZ.B17 : List Nat := [0, 1, 0, 0, 12, 0, 60, 124, 255, 0, 512, 0, 0, 6655, 0, 31231, 63999, 131071, 511, 524287, 1048575, 2097151]
theorem aZ.pK : gW .any (opsOf Tryd.f10 17) = aZ.T17 := by kernel_rfl
theorem aZ.nA : gF aZ.T17.2 aZ.B17 = true := by kernel_rfl
def aZ.T19 : Bool × List (List Nat × List Nat) := (true, [([], []), ([], []), ([1], [1]), ([], []), ([2, 3], [2, 3]), ([], []), ([5], [5]), ([], []), ([6, 7], [6, 7]), ([0, 4, 8], [0, 4, 8]), ([], []), ([10], [10]), ([9, 11], [9, 11]), ([], []), ([], []), ([14], [14]), ([], []), ([15, 16], [15, 16]), ([], []), ([18], [18]), ([], []), ([19, 20], [19, 20]), ([13, 17, 21], [13, 17, 21]), ([], []), ([23], [23]), ([22, 24, 12], [22, 24]), ([12, 25, 0, 1, 2, 3, 4, 5, 6, 7, 8, 9, 10, 11, 12], [0, 1, 5, 12]), ([25, 26, 0, 1, 2, 3, 4, 5, 6, 7, 8, 9, 10, 11, 12, 13, 14, 15, 16, 17, 18, 19, 20, 21, 22, 23, 24, 25, 26], [13, 14, 18, 25])])
def aZ.B19 : List Nat := [0, 0, 2, 0, 14, 0, 32, 0, 224, 511, 0, 1024, 4095, 0, 0, 16384, 0, 114688, 0, 262144, 0, 1835008, 4186112, 0, 8388608, 33554431, 67108863, 134217727]
theorem aZ.wY : gW .any (opsOf Tryd.f10 19) = aZ.T19 := by kernel_rfl
theorem aZ.vV : gF aZ.T19.2 aZ.B19 = true := by kernel_rfl
set_option maxHeartbeats 16000000 in
set_option maxRecDepth 100000 in
theorem aZ.calls (A0 : Option Addr) (c0 : Nat) (l0 : List (S75)) (r1 : Int) (r2 : Bool) (r3 : Int) (r4 : ByteArray) (r5 : List (S29)) (r6 : List (S48)) (r7 : Int) (r8 : Bool) (r9 : Int) (AX : ByteArray) (AY : List (S33)) (AZ : List (S50)) (w : World) (hr0 : Kd.C k75 w A0 l0.length l0) (hc0 : l0.length ≤ c0) (h : aZ.f l0 = some (r1,r2,r3,r4,r5,r6,r7,r8,r9,AX,AY,AZ)) :
    Calls Tryd.prog 10 #[.slice A0 l0.length c0] w fun e w'=>∃ Ba Bb yZ za : Value,e = .returned (.tuple #[.agg #[.int .i64 r1,.bool r2,.int .i64 r3,.string r4,Ba,Bb],.agg #[.int .i64 r7,.bool r8,.int .i64 r9,.string AX,yZ,za]]) ∧ Kd.V k29 29 w' w.heap.size (fun k_=>(w.heap.size ≤ k_)) Ba r5 ∧ Kd.V k48 48 w' w.heap.size (fun k_=>(w.heap.size ≤ k_)) Bb r6 ∧ Kd.V k33 33 w' w.heap.size (fun k_=>(w.heap.size ≤ k_)) yZ AY ∧ Kd.V k50 50 w' w.heap.size (fun k_=>(w.heap.size ≤ k_)) za AZ ∧ Below w.heap.size w w' := by
  obtain ⟨x, hx, h⟩ := Option.bind_eq_some_iff.1 h
  simp only [Option.some.injEq, Prod.mk.injEq] at h
  obtain ⟨rfl, rfl, rfl, rfl, rfl, rfl, rfl, rfl, rfl, rfl, rfl, rfl⟩ := h
  have hlen : l0.length ≤ 1000000 := Decidable.by_contra fun hn => by rw [qd, if_neg hn] at hx; cases hx
  rw [qd, if_pos hlen] at hx
  obtain ⟨laF, hgo, rfl⟩ := Option.map_eq_some_iff.1 hx
  have Bq := Tryd.underlying29
  have Br := Tryd.underlying33
  have Bt := Tryd.underlying75
  have Bu := Tryd.underlying48
  have Bv := Tryd.underlying50
  have Bw := Aside0.mk hr0
  have Cx := Aside0.mk hc0
  have HL := Aside0.mk hlen
  have HGO := Aside0.mk hgo
  clear hr0 hc0 hlen hgo hx h
  go_enter Tryd.func10, Tryd.ntmps10
  go_wp2_with (first
    | ((with_reducible refine bH (N := 2) rfl ?_); refine bF ?hg (N := 2) ?hd (cs := #[.int .i64 0,.bool false,.int .i64 0,.string (⟨#[]⟩ : ByteArray),.slice none 0 0,.slice none 0 0]) (t := 29) ?hr ?_; (case hd => rfl); (case hg => rfl); (case hr => first | (go_simp; done) | (go_simp; rfl)); intro g2 hg w2 hbox hb; have H2 := Aside0.mk hbox; have B2 := Aside0.mk hb; have E2 := Aside0.mk hg; clear hbox hb hg)
    | ((with_reducible refine bH (N := 3) rfl ?_); refine bF ?hg (N := 3) ?hd (cs := #[.int .i64 0,.bool false,.int .i64 0,.string (⟨#[]⟩ : ByteArray),.slice none 0 0,.slice none 0 0]) (t := 33) ?hr ?_; (case hd => rfl); (case hg => rfl); (case hr => first | (go_simp; done) | (go_simp; rfl)); intro g3 hg w3 hbox hb; have HO := Aside0.mk (Out.mk (va := .slice none 0 0) (vb := .slice none 0 0) (la := []) (B2.out.trans (hb.mono B2.out.size)) (aI H2.out hb) hbox (by rw [E2.out]; exact Nat.le_refl _) (by rw [hg]; exact B2.out.size) (Kd.eT _ _ _ _ _) (Kd.eT _ _ _ _ _)); clear hbox hb hg))
  go_loopg [4, 5, 16] l0.length (fun kq v4 v5 v16 w' => ∃ (la : List S29) (i : Nat), v16 = .int .i64 (i : Int) ∧ Aside0 (kq = l0.length - i ∧ i ≤ l0.length ∧ la.length ≤ i ∧ bGo (l0.drop i) la = some laF) ∧ Aside0 (Out w w' g2 g3 v4 v5 la))
  case atStart => exact ⟨[], 0, rfl, ⟨rfl, Nat.zero_le _, Nat.le_refl _, by rw [List.drop_zero]; exact HGO.out⟩, HO⟩
  case round =>
    obtain ⟨w1, hw1⟩ : ∃ q, q = wr := ⟨_, rfl⟩
    subst hw1
    clear HO HGO B2 E2 H2
    obtain ⟨la, i, rfl, HI, HO⟩ := hrel
    obtain ⟨Aa, ca, ea⟩ := Kd.dJ HO.out.a
    obtain ⟨Ab, cb, eb⟩ := Kd.dJ HO.out.c
    rw [dW] at eb
    subst ea
    subst eb
    by_cases c4 : (i : Int) < (l0.length : Int)
    · have c4b0 : decide ((i : Int) < (l0.length : Int)) = true := decide_eq_true c4
      have hi0 : 0 ≤ (i : Int) := by omega
      obtain ⟨ad, ead, hx0, hx1, hx2, hx3, hx4⟩ := qc Bw.out (i : Int) hi0 c4
      cases ead
      replace hx0 := (HO.out.b.cell (World.block_lt_of_cell? w _ hx0)).trans hx0
      replace hx1 := (HO.out.b.cell (World.block_lt_of_cell? w _ hx1)).trans hx1
      replace hx2 := (HO.out.b.cell (World.block_lt_of_cell? w _ hx2)).trans hx2
      replace hx3 := (HO.out.b.cell (World.block_lt_of_cell? w _ hx3)).trans hx3
      replace hx4 := (HO.out.b.cell (World.block_lt_of_cell? w _ hx4)).trans hx4
      obtain ⟨p, hp⟩ : ∃ p, fu l0 (i : Int) = p := ⟨_, rfl⟩
      rw [hp] at hx0 hx1 hx2 hx3 hx4
      have HP := Aside0.mk hp
      clear hp
      simp only [Int.toNat_natCast] at hx0 hx1 hx2 hx3 hx4
      have q0 := eq_true hi0
      have q1 := eq_true c4
      have ze := Aside0.mk (show i < l0.length by omega)
      clear hi0 c4
      go_upto_region 7 with (first | ((with_reducible refine bH (N := 7) rfl ?_); refine bF ?hg (N := 7) ?hd (cs := #[.int .i64 0,.int .i64 0,.bool false,.int .i64 0,.string (⟨#[]⟩ : ByteArray)]) (t := 75) ?hr ?_; (case hd => rfl); (case hg => rfl); (case hr => first | (go_simp; done) | (go_simp; rfl)); intro gp hg w8 hbox hb; have yC := Aside0.mk hbox; have Bc := Aside0.mk hb; have GP := Aside0.mk (show w1.heap.size ≤ gp by rw [hg]; exact Nat.le_refl _); clear hg hbox hb; have zL : w8.cell? ⟨gp,0,none⟩ = some (.int .i64 0) := (ah yC.out 0).trans rfl; have zM : w8.cell? ⟨gp,1,none⟩ = some (.int .i64 0) := (ah yC.out 1).trans rfl; have hcz2 : w8.cell? ⟨gp,2,none⟩ = some (.bool false) := (ah yC.out 2).trans rfl; have zN : w8.cell? ⟨gp,3,none⟩ = some (.int .i64 0) := (ah yC.out 3).trans rfl; have zO : w8.cell? ⟨gp,4,none⟩ = some (.string (⟨#[]⟩ : ByteArray)) := (ah yC.out 4).trans rfl; have zP := aj yC.out 0; have zQ := aj yC.out 1; have zR := aj yC.out 2; have zS := aj yC.out 3; have zT := aj yC.out 4))
      (try simp only [Act.put, List.setIfInBounds_toArray, List.set_cons_zero, List.set_cons_succ])
      obtain ⟨w9, Bd, Bf, Bg⟩ := xK (v0 := .int .i64 p.f0) (v1 := .int .i64 p.f1) (v2 := .bool p.f2) (v3 := .int .i64 p.f3) (v4 := .string p.f4) Bc.out yC.out GP.out
      rw [Bd]
      have xS := Aside0.mk Bf
      have yx := Aside0.mk Bg
      clear Bd Bf Bg Bc yC zL zM hcz2 zN zO zP zQ zR zS zT hx0 hx1 hx2 hx3 hx4 q0 q1 c4b0
      go_cut [32] (fun v32 wc => v32 = .bool (decide (0 < p.f1 ∧ (p.f0 = 4 ∨ p.f0 = 5))) ∧ Aside0 (Below w1.heap.size w1 wc) ∧ Aside0 (wc.heap[gp]? = some (.cells #[.int .i64 p.f0, .int .i64 p.f1, .bool p.f2, .int .i64 p.f3, .string p.f4] 75 (0, 0))))
      case first =>
        have hp0 : w9.cell? ⟨gp,0,none⟩ = some (.int .i64 p.f0) := (ah xS.out 0).trans rfl
        have hp1 : w9.cell? ⟨gp,1,none⟩ = some (.int .i64 p.f1) := (ah xS.out 1).trans rfl
        by_cases c12 : p.f1 > 0
        · have c12b : decide (0 < p.f1) = true := decide_eq_true c12
          have Bh := Aside0.mk c12
          clear c12
          by_cases c13 : p.f0 = 4
          · have c13b : (p.f0 == 4) = true := beq_iff_eq.mpr c13
            have HK := Aside0.mk (decide_eq_true (show 0 < p.f1 ∧ (p.f0 = 4 ∨ p.f0 = 5) from ⟨Bh.out, .inl c13⟩))
            clear c13
            go_wp2
            go_meet
            case rel => exact ⟨by rw [HK.out], yx, xS⟩
          · have c13b : (p.f0 == 4) = false := beq_eq_false_iff_ne.mpr c13
            by_cases c14 : p.f0 = 5
            · have c14b : (p.f0 == 5) = true := beq_iff_eq.mpr c14
              have HK := Aside0.mk (decide_eq_true (show 0 < p.f1 ∧ (p.f0 = 4 ∨ p.f0 = 5) from ⟨Bh.out, .inr c14⟩))
              clear c13 c14
              go_wp2
              go_meet
              case rel => exact ⟨by rw [HK.out], yx, xS⟩
            · have c14b : (p.f0 == 5) = false := beq_eq_false_iff_ne.mpr c14
              have HK := Aside0.mk (decide_eq_false (show ¬ (0 < p.f1 ∧ (p.f0 = 4 ∨ p.f0 = 5)) from fun h => h.2.elim c13 c14))
              clear c13 c14
              go_wp2
              go_meet
              case rel => exact ⟨by rw [HK.out], yx, xS⟩
        · have c12b : decide (0 < p.f1) = false := decide_eq_false c12
          have HK := Aside0.mk (decide_eq_false (show ¬ (0 < p.f1 ∧ (p.f0 = 4 ∨ p.f0 = 5)) from fun h => c12 h.1))
          clear c12
          go_wp2
          go_meet
          case rel => exact ⟨by rw [HK.out], yx, xS⟩
      case rest =>
        clear xS yx
        obtain ⟨rfl, yx, xS⟩ := hcut
        go_upto_if 32 with (fail)
        go_cut [8] (fun v8 wd => v8 = .int .i64 (bK p la.length : Nat) ∧ Aside0 (Below w1.heap.size w1 wd) ∧ Aside0 (wd.heap[gp]? = some (.cells #[.int .i64 p.f0, .int .i64 p.f1, .bool p.f2, .int .i64 p.f3, .string p.f4] 75 (0, 0))))
        case first =>
          have hp1 : wc.cell? ⟨gp,1,none⟩ = some (.int .i64 p.f1) := (ah xS.out 1).trans rfl
          by_cases c15 : 0 < p.f1 ∧ (p.f0 = 4 ∨ p.f0 = 5)
          · obtain ⟨ji, hji⟩ : ∃ j : Int, (if (la.length : Int) < p.f1 then (la.length : Int) else p.f1) = j := ⟨_, rfl⟩
            have HK := Aside0.mk ((vM la.length c15.1 c15.2).trans hji)
            rw [decide_eq_true c15]
            clear c15
            go_wp2
            go_meet
            case rel => exact ⟨by rw [HK.out], yx, xS⟩
          · have HK := Aside0.mk (show bK p la.length = 0 by unfold bK; rw [if_neg c15])
            rw [decide_eq_false c15]
            clear c15
            go_wp2
            go_meet
            case rel => exact ⟨by rw [HK.out]; rfl, yx, xS⟩
        case rest =>
          clear xS yx
          obtain ⟨rfl, yx, xS⟩ := hcut
          obtain ⟨K, hK⟩ : ∃ K, bK p la.length = K := ⟨_, rfl⟩
          have HKL := Aside0.mk (show K ≤ la.length by rw [← hK]; exact wN p la.length)
          have HKE := Aside0.mk hK
          rw [hK]
          clear hK
          have Bz : wc.cell? ⟨gp,0,none⟩ = some (.int .i64 p.f0) := (ah xS.out 0).trans rfl
          have BA : wc.cell? ⟨gp,1,none⟩ = some (.int .i64 p.f1) := (ah xS.out 1).trans rfl
          have BD : wc.cell? ⟨gp,2,none⟩ = some (.bool p.f2) := (ah xS.out 2).trans rfl
          have BF : wc.cell? ⟨gp,3,none⟩ = some (.int .i64 p.f3) := (ah xS.out 3).trans rfl
          have BG : wc.cell? ⟨gp,4,none⟩ = some (.string p.f4) := (ah xS.out 4).trans rfl
          have VX := Aside0.mk (fun (wq : World) (hb : Below w1.heap.size w1 wq) (gx : Nat) (hg : gx = wq.heap.size) (wz : World) (h1 : wz.heap[gx]? = some (.cells #[.int .i64 0,.bool false,.int .i64 0,.string (⟨#[]⟩ : ByteArray),.slice none 0 0,.slice none 0 0] 29 (0,0))) (h2 : Below wq.heap.size wq wz) => lX (.int .i64 p.f0) (.bool p.f2) (.int .i64 p.f3) (.string p.f4) (.slice none 0 0) (.slice none 0 0) (aK hb h2) h1 (by rw [hg]; exact hb.size))
          have VY := Aside0.mk (fun (wq : World) (hb : Below w1.heap.size w1 wq) (gx : Nat) (hg : gx = wq.heap.size) (wz : World) (h1 : wz.heap[gx]? = some (.cells #[.int .i64 0,.bool false,.int .i64 0,.string (⟨#[]⟩ : ByteArray),.slice none 0 0,.slice none 0 0] 33 (0,0))) (h2 : Below wq.heap.size wq wz) => lX (.int .i64 p.f0) (.bool p.f2) (.int .i64 p.f3) (.string p.f4) (.slice none 0 0) (.slice none 0 0) (aK hb h2) h1 (by rw [hg]; exact hb.size))
          go_upto_region 10 with (first | ((with_reducible refine bH (N := 9) rfl ?_); refine bF ?hg (N := 9) ?hd (cs := #[.int .i64 0,.bool false,.int .i64 0,.string (⟨#[]⟩ : ByteArray),.slice none 0 0,.slice none 0 0]) (t := 29) ?hr ?_; (case hd => rfl); (case hg => rfl); (case hr => first | (go_simp; done) | (go_simp; rfl)); intro gx hg yD hbox hb; have HX := Aside0.mk hbox; have BX := Aside0.mk hb; have EX := Aside0.mk hg; clear hbox hb hg; have zU : yD.cell? ⟨gx,0,none⟩ = some (.int .i64 0) := (ah HX.out 0).trans rfl; have zV := aj HX.out 0; have zW : yD.cell? ⟨gx,1,none⟩ = some (.bool false) := (ah HX.out 1).trans rfl; have zX := aj HX.out 1; have zY : yD.cell? ⟨gx,2,none⟩ = some (.int .i64 0) := (ah HX.out 2).trans rfl; have zZ := aj HX.out 2; have z8 : yD.cell? ⟨gx,3,none⟩ = some (.string (⟨#[]⟩ : ByteArray)) := (ah HX.out 3).trans rfl; have Ac := aj HX.out 3; have Ad : yD.cell? ⟨gx,4,none⟩ = some (.slice none 0 0) := (ah HX.out 4).trans rfl; have Ae := aj HX.out 4; have Af : yD.cell? ⟨gx,5,none⟩ = some (.slice none 0 0) := (ah HX.out 5).trans rfl; have Ag := aj HX.out 5; have Ah : yD.cell? ⟨gp,0,none⟩ = some (.int .i64 p.f0) := (ah (Aside0.mk (aI xS.out BX.out)).out 0).trans rfl; have Ai : yD.cell? ⟨gp,1,none⟩ = some (.int .i64 p.f1) := (ah (Aside0.mk (aI xS.out BX.out)).out 1).trans rfl; have Aj : yD.cell? ⟨gp,2,none⟩ = some (.bool p.f2) := (ah (Aside0.mk (aI xS.out BX.out)).out 2).trans rfl; have Ak : yD.cell? ⟨gp,3,none⟩ = some (.int .i64 p.f3) := (ah (Aside0.mk (aI xS.out BX.out)).out 3).trans rfl; have Al : yD.cell? ⟨gp,4,none⟩ = some (.string p.f4) := (ah (Aside0.mk (aI xS.out BX.out)).out 4).trans rfl))
          (try simp only [Act.put, List.setIfInBounds_toArray, List.set_cons_zero, List.set_cons_succ])
          obtain ⟨yT, zf, hX, zh, zi, Am⟩ := VX.out wc yx.out gx EX.out yD HX.out BX.out
          rw [zf]
          have zF := Aside0.mk hX
          have zG := Aside0.mk zh
          have yw := Aside0.mk ((zi gp (by have := bO xS.out; have := EX.out; omega)).trans (aI xS.out BX.out))
          have GX := Aside0.mk (show w1.heap.size ≤ gx by rw [EX.out]; exact yx.out.size)
          clear zf hX zh zi Am HX yx xS BX EX Bz Ah BA Ai BD Aj BF Ak BG Al zU zV zW zX zY zZ z8 Ac Ad Ae Af Ag
          have BH : yT.cell? ⟨gp,0,none⟩ = some (.int .i64 p.f0) := (ah yw.out 0).trans rfl
          have pc1 : yT.cell? ⟨gp,1,none⟩ = some (.int .i64 p.f1) := (ah yw.out 1).trans rfl
          have pc2 : yT.cell? ⟨gp,2,none⟩ = some (.bool p.f2) := (ah yw.out 2).trans rfl
          have BI : yT.cell? ⟨gp,3,none⟩ = some (.int .i64 p.f3) := (ah yw.out 3).trans rfl
          have BJ : yT.cell? ⟨gp,4,none⟩ = some (.string p.f4) := (ah yw.out 4).trans rfl
          go_upto_region 11 with (first | ((with_reducible refine bH (N := 10) rfl ?_); refine bF ?hg (N := 10) ?hd (cs := #[.int .i64 0,.bool false,.int .i64 0,.string (⟨#[]⟩ : ByteArray),.slice none 0 0,.slice none 0 0]) (t := 33) ?hr ?_; (case hd => rfl); (case hg => rfl); (case hr => first | (go_simp; done) | (go_simp; rfl)); intro gy hg yE hbox hb; have HY := Aside0.mk hbox; have BY := Aside0.mk hb; have EY := Aside0.mk hg; clear hbox hb hg; have Ao : yE.cell? ⟨gy,0,none⟩ = some (.int .i64 0) := (ah HY.out 0).trans rfl; have Ap := aj HY.out 0; have Aq : yE.cell? ⟨gy,1,none⟩ = some (.bool false) := (ah HY.out 1).trans rfl; have Ar := aj HY.out 1; have Au : yE.cell? ⟨gy,2,none⟩ = some (.int .i64 0) := (ah HY.out 2).trans rfl; have Av := aj HY.out 2; have AA : yE.cell? ⟨gy,3,none⟩ = some (.string (⟨#[]⟩ : ByteArray)) := (ah HY.out 3).trans rfl; have AB := aj HY.out 3; have AJ : yE.cell? ⟨gy,4,none⟩ = some (.slice none 0 0) := (ah HY.out 4).trans rfl; have AL := aj HY.out 4; have AO : yE.cell? ⟨gy,5,none⟩ = some (.slice none 0 0) := (ah HY.out 5).trans rfl; have AP := aj HY.out 5; have Ah : yE.cell? ⟨gp,0,none⟩ = some (.int .i64 p.f0) := (ah (Aside0.mk (aI yw.out BY.out)).out 0).trans rfl; have Ai : yE.cell? ⟨gp,1,none⟩ = some (.int .i64 p.f1) := (ah (Aside0.mk (aI yw.out BY.out)).out 1).trans rfl; have Aj : yE.cell? ⟨gp,2,none⟩ = some (.bool p.f2) := (ah (Aside0.mk (aI yw.out BY.out)).out 2).trans rfl; have Ak : yE.cell? ⟨gp,3,none⟩ = some (.int .i64 p.f3) := (ah (Aside0.mk (aI yw.out BY.out)).out 3).trans rfl; have Al : yE.cell? ⟨gp,4,none⟩ = some (.string p.f4) := (ah (Aside0.mk (aI yw.out BY.out)).out 4).trans rfl))
          (try simp only [Act.put, List.setIfInBounds_toArray, List.set_cons_zero, List.set_cons_succ])
          obtain ⟨Bj, zk, hY, yO, yP, zl⟩ := VY.out yT zG.out gy EY.out yE HY.out BY.out
          rw [zk]
          obtain ⟨X, hX⟩ := uJ ze.out HP.out HKE.out HI.out.2.2.2
          have HX := Aside0.mk hX
          have hlt : ∀ g ∈ [gp, gx, gy, g2, g3], g < Bj.heap.size := by
            have z1 := bO yw.out; have z2 := bO zF.out; have z3 := bO HY.out; have z4 := BY.out.size; have z5 := bO HO.out.h2; have z6 := bO HO.out.h3; have z7 := zG.out.size
            intro g hg
            simp only [List.mem_cons, List.not_mem_nil, or_false] at hg
            rw [zl]
            rcases hg with rfl | rfl | rfl | rfl | rfl <;> omega
          have Bl := Aside0.mk (show Mid w.heap.size [gp, gx, gy, g2, g3] w1 Bj gp gx gy p X 0 from by
            have Bn := (yP gp (by have := bO yw.out; have := EY.out; omega)).trans (aI yw.out BY.out)
            have hx6 := (yP gx (by have := bO zF.out; have := EY.out; omega)).trans (aI zF.out BY.out)
            have hgy : w1.heap.size ≤ gy := by rw [EY.out]; exact zG.out.size
            by_cases h4 : p.f0 = 4
            · exact .inl ⟨h4, .slice none 0 0, .slice none 0 0, ⟨yO, Bn, hx6, hY, Kd.iZ _ _ _ _ _, Kd.iZ _ _ _ _ _, GP.out, GX.out, hgy, by simp, by simp, by simp, hlt, HO.out.b.size⟩⟩
            · exact .inr ⟨h4, .slice none 0 0, .slice none 0 0, ⟨yO, Bn, hx6, hY, Kd.iZ _ _ _ _ _, Kd.iZ _ _ _ _ _, GP.out, GX.out, hgy, by simp, by simp, by simp, hlt, HO.out.b.size⟩⟩)
          clear hX hlt zk hY yO yP zl zF yw zG HY BY EY GX VX VY Ah BH Ai pc1 Aj pc2 Ak BI Al BJ Ao Ap Aq Ar Au Av AA AB AJ AL AO AP
          go_wp2
          go_loopg [57] K (fun kq v57 w' => ∃ j : Nat, v57 = .int .i64 (j : Int) ∧ Aside0 (kq = K - j ∧ j ≤ K) ∧ Aside0 (Mid w.heap.size [gp, gx, gy, g2, g3] w1 w' gp gx gy p X j))
          case atStart => exact ⟨0, rfl, ⟨rfl, Nat.zero_le _⟩, Bl⟩
          case round =>
            clear Bl
            obtain ⟨j, rfl, HJ, HD⟩ := hrel
            by_cases zH : (j : Int) < (K : Int)
            · have c57b0 : decide ((j : Int) < (K : Int)) = true := decide_eq_true zH
              have HJK := Aside0.mk (show j < K by omega)
              have c57b1 : decide (j < K) = true := decide_eq_true HJK.out
              have c57b2 : (j < K) = True := eq_true HJK.out
              clear zH
              have hla : la.length ≤ 1000000 := Nat.le_trans HI.out.2.2.1 (Nat.le_trans HI.out.2.1 HL.out)
              have hKL := HKL.out
              obtain ⟨m, hm⟩ : ∃ m, la.length - K = m := ⟨_, rfl⟩
              obtain ⟨q, hq⟩ : ∃ q, m + j = q := ⟨_, rfl⟩
              have hqn : q < la.length := by have := HJK.out; omega
              have hwm : wrap64 ((la.length : Int) - (K : Int)) = (m : Int) := iQ (by omega) (by omega)
              have hwq : wrap64 ((m : Int) + (j : Int)) = (q : Int) := iQ (by omega) (by omega)
              obtain ⟨ada, eada⟩ : ∃ ad, Aa = some ad := by
                obtain ⟨ad, e, _⟩ := (Kd.bM HO.out.a).2.2.2.2 (by omega)
                exact ⟨ad, e⟩
              subst eada
              have hOc := HO.out.c
              rw [← dW] at hOc
              obtain ⟨adb, eadb⟩ : ∃ ad, Ab = some ad := by
                obtain ⟨ad, e, _⟩ := (Kd.bM hOc).2.2.2.2 (by rw [dW]; omega)
                exact ⟨ad, e⟩
              subst eadb
              obtain ⟨A4, c4, A5, c5, hl4, yQ, hl5, yR, yc, yg, yh, yj, yt, yu⟩ := uX HO.out.a q hqn
              obtain ⟨B4, d4, B5, d5, yJ, yK, yL, yM, xU, xV, xW, xX, xY, xZ⟩ := uY hOc q (by rw [dW]; exact hqn)
              obtain ⟨v, hv⟩ : ∃ v, aH la (q : Int) = v := ⟨_, rfl⟩
              obtain ⟨u, hu⟩ : ∃ u, bG (cZ la) (q : Int) = u := ⟨_, rfl⟩
              rw [hv] at hl4 yQ hl5 yR yc yg yh yj yt yu
              rw [hu] at yJ yK yL yM xU xV xW xX xY xZ
              have HVL := Aside0.mk (show v.f4.length ≤ c4 ∧ v.f5.length ≤ c5 from ⟨hl4, hl5⟩)
              have HUL := Aside0.mk (show u.f4.length ≤ d4 ∧ u.f5.length ≤ d5 from ⟨yJ, yL⟩)
              have zm := Aside0.mk yQ
              have zn := Aside0.mk yR
              have yU := Aside0.mk yK
              have yV := Aside0.mk yM
              have HQ := Aside0.mk (show m + j = q ∧ q < la.length ∧ aH la (q : Int) = v ∧ bG (cZ la) (q : Int) = u ∧ la.length - K = m from ⟨hq, hqn, hv, hu, hm⟩)
              have HXL := Aside0.mk (show X.f4.length ≤ 1000000 ∧ X.f5.length ≤ 1000000 from by have z := sQ HX.out; rw [List.length_drop] at z; exact ⟨by omega, by omega⟩)
              have q0 : (0 ≤ (q : Int)) = True := eq_true (by omega)
              have q1 : ((q : Int) < (la.length : Int)) = True := eq_true (by omega)
              have q2 : (q < la.length) = True := eq_true hqn
              have HDB := Aside0.mk HD.out.b
              clear hl4 yQ hl5 yR yJ yK yL yM hv hu hOc hqn hq hm hKL hla
              try go_wp2
              refine iE (n := 22) (S := fun w' => Below w1.heap.size w1 w') (ds := [21]) #[false, false, false, false, false, false, false, false, false, false, false, false, false, false, false, false, false, false, false, false, false, false] (by kernel_rfl) rfl rfl (HDB.out.drew) (fun hHeld => ?_)
              refine fB aZ.wW aZ.vT (fun HT_ HW_ => ?_)
              replace HD := Aside0.mk (HD.out.below (dQ (Below.refl _ _)))
              refine bE (i := 0) (N := some 60) (v := ?_) (a' := ?_) #[true, false, false, false, false, false, false, false, false, false, false, false, false, false, false, false, false, false, false, false, false, false] rfl rfl (bg HT_.out (by kernel_rfl)) (fun _ _ _ h => h) (Or.inl ⟨by rfl, ?_⟩) ?_ ?_
              rotate_left
              · intro w'
                go_simp
                with_reducible rfl
              rotate_left
              · simp only [Act.put, List.setIfInBounds_toArray, List.set_cons_zero, List.set_cons_succ, aT, aU]
                rfl
              refine bE (i := 1) (N := some 61) (v := ?_) (a' := ?_) #[true, true, false, false, false, false, false, false, false, false, false, false, false, false, false, false, false, false, false, false, false, false] rfl rfl (bg HT_.out (by kernel_rfl)) (fun _ _ _ h => h) (Or.inl ⟨by rfl, ?_⟩) ?_ ?_
              rotate_left
              · intro w'
                go_simp
                with_reducible rfl
              rotate_left
              · simp only [Act.put, List.setIfInBounds_toArray, List.set_cons_zero, List.set_cons_succ, aT, aU]
                rfl
              refine bE (i := 2) (N := some 62) (v := ?_) (a' := ?_) #[true, true, true, false, false, false, false, false, false, false, false, false, false, false, false, false, false, false, false, false, false, false] rfl rfl (bg HT_.out (by kernel_rfl)) (fun _ _ _ h => h) (Or.inl ⟨by rfl, ?_⟩) ?_ ?_
              rotate_left
              · intro w'
                go_simp
                with_reducible rfl
              rotate_left
              · simp only [Act.put, List.setIfInBounds_toArray, List.set_cons_zero, List.set_cons_succ, aT, aU]
                rfl
              refine bE (i := 3) (N := some 63) (v := ?_) (a' := ?_) #[true, true, true, true, false, false, false, false, false, false, false, false, false, false, false, false, false, false, false, false, false, false] rfl rfl (bg HT_.out (by kernel_rfl)) (fun _ _ _ h => h) (Or.inl ⟨by rfl, ?_⟩) ?_ ?_
              rotate_left
              · intro w'
                go_simp
                with_reducible rfl
              rotate_left
              · simp only [Act.put, List.setIfInBounds_toArray, List.set_cons_zero, List.set_cons_succ, aT, aU]
                rfl
              refine bE (i := 4) (N := some 64) (v := ?_) (a' := ?_) #[true, true, true, true, true, false, false, false, false, false, false, false, false, false, false, false, false, false, false, false, false, false] rfl rfl (bg HT_.out (by kernel_rfl)) (fun _ _ _ h => h) (Or.inl ⟨by rfl, ?_⟩) ?_ ?_
              rotate_left
              · intro w'
                go_simp
                with_reducible rfl
              rotate_left
              · simp only [Act.put, List.setIfInBounds_toArray, List.set_cons_zero, List.set_cons_succ, aT, aU]
                rfl
              refine bE (i := 5) (N := some 65) (v := ?_) (a' := ?_) #[true, true, true, true, true, true, false, false, false, false, false, false, false, false, false, false, false, false, false, false, false, false] rfl rfl (bg HT_.out (by kernel_rfl)) (fun _ _ _ h => h) (Or.inl ⟨by rfl, ?_⟩) ?_ ?_
              rotate_left
              · intro w'
                go_simp
                with_reducible rfl
              rotate_left
              · simp only [Act.put, List.setIfInBounds_toArray, List.set_cons_zero, List.set_cons_succ, aT, aU]
                rfl
              refine bE (i := 6) (N := some 66) (v := ?_) (a' := ?_) #[true, true, true, true, true, true, true, false, false, false, false, false, false, false, false, false, false, false, false, false, false, false] rfl rfl (bg HT_.out (by kernel_rfl)) (fun _ _ _ h => h) (Or.inl ⟨by rfl, ?_⟩) ?_ ?_
              rotate_left
              · intro w'
                go_simp
                with_reducible rfl
              rotate_left
              · simp only [Act.put, List.setIfInBounds_toArray, List.set_cons_zero, List.set_cons_succ, aT, aU]
                rfl
              refine bE (i := 7) (N := some 67) (v := ?_) (a' := ?_) #[true, true, true, true, true, true, true, true, false, false, false, false, false, false, false, false, false, false, false, false, false, false] rfl rfl (bg HT_.out (by kernel_rfl)) (fun _ _ _ h => h) (Or.inl ⟨by rfl, ?_⟩) ?_ ?_
              rotate_left
              · intro w'
                go_simp
                with_reducible rfl
              rotate_left
              · simp only [Act.put, List.setIfInBounds_toArray, List.set_cons_zero, List.set_cons_succ, aT, aU]
                rfl
              refine bE (i := 9) (N := some 69) (v := ?_) (a' := ?_) #[true, true, true, true, true, true, true, true, false, true, false, false, false, false, false, false, false, false, false, false, false, false] rfl rfl (bg HT_.out (by kernel_rfl)) (fun _ _ _ h => h) (Or.inl ⟨by rfl, ?_⟩) ?_ ?_
              rotate_left
              · intro w'
                go_simp
                with_reducible rfl
              rotate_left
              · simp only [Act.put, List.setIfInBounds_toArray, List.set_cons_zero, List.set_cons_succ, aT, aU]
                rfl
              refine bE (i := 10) (N := some 70) (v := ?_) (a' := ?_) #[true, true, true, true, true, true, true, true, false, true, true, false, false, false, false, false, false, false, false, false, false, false] rfl rfl (bg HT_.out (by kernel_rfl)) (fun _ _ _ h => h) (Or.inl ⟨by rfl, ?_⟩) ?_ ?_
              rotate_left
              · intro w'
                go_simp
                with_reducible rfl
              rotate_left
              · simp only [Act.put, List.setIfInBounds_toArray, List.set_cons_zero, List.set_cons_succ, aT, aU]
                rfl
              refine bE (i := 11) (N := some 71) (v := ?_) (a' := ?_) #[true, true, true, true, true, true, true, true, false, true, true, true, false, false, false, false, false, false, false, false, false, false] rfl rfl (bg HT_.out (by kernel_rfl)) (fun _ _ _ h => h) (Or.inl ⟨by rfl, ?_⟩) ?_ ?_
              rotate_left
              · intro w'
                go_simp
                with_reducible rfl
              rotate_left
              · simp only [Act.put, List.setIfInBounds_toArray, List.set_cons_zero, List.set_cons_succ, aT, aU]
                rfl
              refine bE (i := 12) (N := some 72) (v := ?_) (a' := ?_) #[true, true, true, true, true, true, true, true, false, true, true, true, true, false, false, false, false, false, false, false, false, false] rfl rfl (bg HT_.out (by kernel_rfl)) (fun _ _ _ h => h) (Or.inl ⟨by rfl, ?_⟩) ?_ ?_
              rotate_left
              · intro w'
                go_simp
                with_reducible rfl
              rotate_left
              · simp only [Act.put, List.setIfInBounds_toArray, List.set_cons_zero, List.set_cons_succ, aT, aU]
                rfl
              refine bE (i := 13) (N := some 73) (v := ?_) (a' := ?_) #[true, true, true, true, true, true, true, true, false, true, true, true, true, true, false, false, false, false, false, false, false, false] rfl rfl (bg HT_.out (by kernel_rfl)) (fun _ _ _ h => h) (Or.inl ⟨by rfl, ?_⟩) ?_ ?_
              rotate_left
              · intro w'
                go_simp
                with_reducible rfl
              rotate_left
              · simp only [Act.put, List.setIfInBounds_toArray, List.set_cons_zero, List.set_cons_succ, aT, aU]
                rfl
              refine bE (i := 14) (N := some 74) (v := ?_) (a' := ?_) #[true, true, true, true, true, true, true, true, false, true, true, true, true, true, true, false, false, false, false, false, false, false] rfl rfl (bg HT_.out (by kernel_rfl)) (fun _ _ _ h => h) (Or.inl ⟨by rfl, ?_⟩) ?_ ?_
              rotate_left
              · intro w'
                go_simp
                with_reducible rfl
              rotate_left
              · simp only [Act.put, List.setIfInBounds_toArray, List.set_cons_zero, List.set_cons_succ, aT, aU]
                rfl
              refine bE (i := 15) (N := some 75) (v := ?_) (a' := ?_) #[true, true, true, true, true, true, true, true, false, true, true, true, true, true, true, true, false, false, false, false, false, false] rfl rfl (bg HT_.out (by kernel_rfl)) (fun _ _ _ h => h) (Or.inl ⟨by rfl, ?_⟩) ?_ ?_
              rotate_left
              · intro w'
                go_simp
                with_reducible rfl
              rotate_left
              · simp only [Act.put, List.setIfInBounds_toArray, List.set_cons_zero, List.set_cons_succ, aT, aU]
                rfl
              refine bE (i := 16) (N := some 76) (v := ?_) (a' := ?_) #[true, true, true, true, true, true, true, true, false, true, true, true, true, true, true, true, true, false, false, false, false, false] rfl rfl (bg HT_.out (by kernel_rfl)) (fun _ _ _ h => h) (Or.inl ⟨by rfl, ?_⟩) ?_ ?_
              rotate_left
              · intro w'
                go_simp
                with_reducible rfl
              rotate_left
              · simp only [Act.put, List.setIfInBounds_toArray, List.set_cons_zero, List.set_cons_succ, aT, aU]
                rfl
              refine dI (i := 8) (N := some 68) (v := ?_) (a' := ?_) #[true, true, true, true, true, true, true, true, true, true, true, true, true, true, true, true, true, false, false, false, false, false] rfl rfl (bU HT_.out HW_.out (by kernel_rfl)) (fun _ _ _ h => h) (Or.inl ⟨by rfl, ?_⟩) hHeld ?_ ?_
              rotate_left
              · intro w' s0
                have e0 := (s0.cell (World.block_lt_of_cell? w1 _ yc)).trans yc
                have e1 := (s0.cell (World.block_lt_of_cell? w1 _ yg)).trans yg
                have e2 := (s0.cell (World.block_lt_of_cell? w1 _ yh)).trans yh
                have e3 := (s0.cell (World.block_lt_of_cell? w1 _ yj)).trans yj
                have e4 := (s0.cell (World.block_lt_of_cell? w1 _ yt)).trans yt
                have e5 := (s0.cell (World.block_lt_of_cell? w1 _ yu)).trans yu
                have f0 := (s0.cell (World.block_lt_of_cell? w1 _ xU)).trans xU
                have f1 := (s0.cell (World.block_lt_of_cell? w1 _ xV)).trans xV
                have f2 := (s0.cell (World.block_lt_of_cell? w1 _ xW)).trans xW
                have f3 := (s0.cell (World.block_lt_of_cell? w1 _ xX)).trans xX
                have f4 := (s0.cell (World.block_lt_of_cell? w1 _ xY)).trans xY
                have f5 := (s0.cell (World.block_lt_of_cell? w1 _ xZ)).trans xZ
                go_simp
                with_reducible rfl
              rotate_left
              · simp only [Act.put, List.setIfInBounds_toArray, List.set_cons_zero, List.set_cons_succ, aT, aU]
                rfl
              refine dI (i := 17) (N := some 77) (v := ?_) (a' := ?_) #[true, true, true, true, true, true, true, true, true, true, true, true, true, true, true, true, true, true, false, false, false, false] rfl rfl (bU HT_.out HW_.out (by kernel_rfl)) (fun _ _ _ h => h) (Or.inl ⟨by rfl, ?_⟩) hHeld ?_ ?_
              rotate_left
              · intro w' s0
                have e0 := (s0.cell (World.block_lt_of_cell? w1 _ yc)).trans yc
                have e1 := (s0.cell (World.block_lt_of_cell? w1 _ yg)).trans yg
                have e2 := (s0.cell (World.block_lt_of_cell? w1 _ yh)).trans yh
                have e3 := (s0.cell (World.block_lt_of_cell? w1 _ yj)).trans yj
                have e4 := (s0.cell (World.block_lt_of_cell? w1 _ yt)).trans yt
                have e5 := (s0.cell (World.block_lt_of_cell? w1 _ yu)).trans yu
                have f0 := (s0.cell (World.block_lt_of_cell? w1 _ xU)).trans xU
                have f1 := (s0.cell (World.block_lt_of_cell? w1 _ xV)).trans xV
                have f2 := (s0.cell (World.block_lt_of_cell? w1 _ xW)).trans xW
                have f3 := (s0.cell (World.block_lt_of_cell? w1 _ xX)).trans xX
                have f4 := (s0.cell (World.block_lt_of_cell? w1 _ xY)).trans xY
                have f5 := (s0.cell (World.block_lt_of_cell? w1 _ xZ)).trans xZ
                go_simp
                with_reducible rfl
              rotate_left
              · simp only [Act.put, List.setIfInBounds_toArray, List.set_cons_zero, List.set_cons_succ, aT, aU]
                rfl
              refine oQ (σ := Nat × Nat) 2 #[true, true, true, true, true, true, true, true, true, true, true, true, true, true, true, true, true, true, true, true, false, false] (fun s => [(12, .pointer (some ⟨s.1,0,none⟩)), (13, .pointer (some ⟨s.2,0,none⟩))]) (fun s w' => Aside0 (Mid w.heap.size [s.1, s.2, gp, gx, gy, g2, g3] w1 w' gp gx gy p X j) ∧ Aside0 (w'.heap[s.1]? = some (.cells #[.int .i64 0,.bool false,.int .i64 0,.string (⟨#[]⟩ : ByteArray),.slice none 0 0,.slice none 0 0] 29 (0, 0))) ∧ Aside0 (w'.heap[s.2]? = some (.cells #[.int .i64 0,.bool false,.int .i64 0,.string (⟨#[]⟩ : ByteArray),.slice none 0 0,.slice none 0 0] 33 (0, 0))) ∧ Aside0 (w1.heap.size ≤ s.1 ∧ s.1 ≠ gx) ∧ Aside0 (w1.heap.size ≤ s.2 ∧ s.2 ≠ gy)) ?_ ?_
              rotate_left
              · intro hCont
                refine mR (i := 18) (j := 19) (Ni := some 12) (Nj := some 13) #[true, true, true, true, true, true, true, true, true, true, true, true, true, true, true, true, true, true, true, false, false, false] #[true, true, true, true, true, true, true, true, true, true, true, true, true, true, true, true, true, true, false, true, false, false] rfl rfl rfl rfl (iW HT_.out (by kernel_rfl)) (by decide) (by decide) (fun K hK => ?_) (fun K hK => ?_)
                · skip
                  refine kK ?hg (N := 12) ?hd (cs := #[.int .i64 0,.bool false,.int .i64 0,.string (⟨#[]⟩ : ByteArray),.slice none 0 0,.slice none 0 0]) (t := 29) ?hr ?_
                  (case hd => rfl)
                  (case hg => rfl)
                  (case hr => first | (go_simp; done) | (go_simp; rfl))
                  intro gv hg wa hbox hb
                  have NHV := Aside0.mk (show w1.heap.size ≤ gv ∧ gv ≠ gx from ⟨by rw [hg]; exact HD.out.b.size, by have := HD.out.lt _ HD.out.mem.2.1; omega⟩)
                  replace HD := Aside0.mk (HD.out.more (Nat.le_of_eq hg.symm) hb (bO hbox))
                  have HV := Aside0.mk hbox
                  clear hg hbox hb
                  refine hK.out _ _ (HD.out.b) (fun hHeld => ?_)
                  clear hK K
                  refine cB (a' := ?_) ?_ ?_
                  rotate_left
                  · show Act.put _ (some 12) _ = _
                    simp only [Act.put, List.setIfInBounds_toArray, List.set_cons_zero, List.set_cons_succ, aT, aU]
                    rfl
                  refine fM (i := 19) (N := some 13) #[true, true, true, true, true, true, true, true, true, true, true, true, true, true, true, true, true, true, true, true, false, false] rfl rfl (dx HT_.out (by kernel_rfl)) (by decide) (fun K hK => ?_)
                  refine kK ?hg (N := 13) ?hd (cs := #[.int .i64 0,.bool false,.int .i64 0,.string (⟨#[]⟩ : ByteArray),.slice none 0 0,.slice none 0 0]) (t := 33) ?hr ?_
                  (case hd => rfl)
                  (case hg => rfl)
                  (case hr => first | (go_simp; done) | (go_simp; rfl))
                  intro gw hg wa hbox hb
                  have NHW := Aside0.mk (show w1.heap.size ≤ gw ∧ gw ≠ gy from ⟨by rw [hg]; exact HD.out.b.size, by have := HD.out.lt _ HD.out.mem.2.2; omega⟩)
                  replace HV := Aside0.mk (aI HV.out hb)
                  replace HD := Aside0.mk (HD.out.more (Nat.le_of_eq hg.symm) hb (bO hbox))
                  have HW := Aside0.mk hbox
                  clear hg hbox hb
                  refine hK.out _ _ (HD.out.b) (fun hHeld => ?_)
                  clear hK K
                  refine cB (a' := ?_) ?_ ?_
                  rotate_left
                  · show Act.put _ (some 13) _ = _
                    simp only [Act.put, List.setIfInBounds_toArray, List.set_cons_zero, List.set_cons_succ, aT, aU]
                    rfl
                  exact cB (by simp only [fO, Act.put, List.setIfInBounds_toArray, List.set_cons_zero, List.set_cons_succ]) (hCont (gv, gw) _ ⟨⟨(HD.out.less (G' := [gv, gw, gp, gx, gy, g2, g3]) (by simp) (by simp) (by simp) (by simp))⟩, HV, HW, NHV, NHW⟩)
                · skip
                  refine kK ?hg (N := 13) ?hd (cs := #[.int .i64 0,.bool false,.int .i64 0,.string (⟨#[]⟩ : ByteArray),.slice none 0 0,.slice none 0 0]) (t := 33) ?hr ?_
                  (case hd => rfl)
                  (case hg => rfl)
                  (case hr => first | (go_simp; done) | (go_simp; rfl))
                  intro gw hg wa hbox hb
                  have NHW := Aside0.mk (show w1.heap.size ≤ gw ∧ gw ≠ gy from ⟨by rw [hg]; exact HD.out.b.size, by have := HD.out.lt _ HD.out.mem.2.2; omega⟩)
                  replace HD := Aside0.mk (HD.out.more (Nat.le_of_eq hg.symm) hb (bO hbox))
                  have HW := Aside0.mk hbox
                  clear hg hbox hb
                  refine hK.out _ _ (HD.out.b) (fun hHeld => ?_)
                  clear hK K
                  refine cB (a' := ?_) ?_ ?_
                  rotate_left
                  · show Act.put _ (some 13) _ = _
                    simp only [Act.put, List.setIfInBounds_toArray, List.set_cons_zero, List.set_cons_succ, aT, aU]
                    rfl
                  refine fM (i := 18) (N := some 12) #[true, true, true, true, true, true, true, true, true, true, true, true, true, true, true, true, true, true, true, true, false, false] rfl rfl (dx HT_.out (by kernel_rfl)) (by decide) (fun K hK => ?_)
                  refine kK ?hg (N := 12) ?hd (cs := #[.int .i64 0,.bool false,.int .i64 0,.string (⟨#[]⟩ : ByteArray),.slice none 0 0,.slice none 0 0]) (t := 29) ?hr ?_
                  (case hd => rfl)
                  (case hg => rfl)
                  (case hr => first | (go_simp; done) | (go_simp; rfl))
                  intro gv hg wa hbox hb
                  have NHV := Aside0.mk (show w1.heap.size ≤ gv ∧ gv ≠ gx from ⟨by rw [hg]; exact HD.out.b.size, by have := HD.out.lt _ HD.out.mem.2.1; omega⟩)
                  replace HW := Aside0.mk (aI HW.out hb)
                  replace HD := Aside0.mk (HD.out.more (Nat.le_of_eq hg.symm) hb (bO hbox))
                  have HV := Aside0.mk hbox
                  clear hg hbox hb
                  refine hK.out _ _ (HD.out.b) (fun hHeld => ?_)
                  clear hK K
                  refine cB (a' := ?_) ?_ ?_
                  rotate_left
                  · show Act.put _ (some 12) _ = _
                    simp only [Act.put, List.setIfInBounds_toArray, List.set_cons_zero, List.set_cons_succ, aT, aU]
                    rfl
                  exact cB (by simp only [fO, Act.put, List.setIfInBounds_toArray, List.set_cons_zero, List.set_cons_succ]) (hCont (gv, gw) _ ⟨⟨HD.out⟩, HV, HW, NHV, NHW⟩)
              rintro ⟨gv, gw⟩ wq ⟨HD, HV, HW, NHV, NHW⟩
              dsimp only at HD HV HW NHV NHW
              have hHeld : Below w1.heap.size w1 wq := HD.out.b
              refine cB (a' := ?_) ?_ ?_
              rotate_left
              · simp only [fO, Act.put, List.setIfInBounds_toArray, List.set_cons_zero, List.set_cons_succ]
                rfl
              refine fM (i := 20) (N := none) #[true, true, true, true, true, true, true, true, true, true, true, true, true, true, true, true, true, true, true, true, true, false] rfl rfl (dx HT_.out (by kernel_rfl)) (by decide) (fun K hK => ?_)
              have z0 : wq.cell? ⟨gv,0,none⟩ = some (.int .i64 0) := (ah HV.out 0).trans rfl
              have z1 : wq.cell? ⟨gv,1,none⟩ = some (.bool false) := (ah HV.out 1).trans rfl
              have z2 : wq.cell? ⟨gv,2,none⟩ = some (.int .i64 0) := (ah HV.out 2).trans rfl
              have z3 : wq.cell? ⟨gv,3,none⟩ = some (.string (⟨#[]⟩ : ByteArray)) := (ah HV.out 3).trans rfl
              have z4 : wq.cell? ⟨gv,4,none⟩ = some (.slice none 0 0) := (ah HV.out 4).trans rfl
              have z5 : wq.cell? ⟨gv,5,none⟩ = some (.slice none 0 0) := (ah HV.out 5).trans rfl
              have f0 := aj HV.out 0
              have f1 := aj HV.out 1
              have f2 := aj HV.out 2
              have f3 := aj HV.out 3
              have f4 := aj HV.out 4
              have f5 := aj HV.out 5
              refine ku (w1 := ?_) (by rfl) rfl ?_ ?_
              rotate_left
              · go_simp
                rfl
              clear z0 f0 z1 f1 z2 f2 z3 f3 z4 f4 z5 f5
              obtain ⟨yX, e20, hD, hV, zo⟩ := HD.out.xL (.int .i64 v.f0) (.bool v.f1) (.int .i64 v.f2) (.string v.f3) (.slice A4 v.f4.length c4) (.slice A5 v.f5.length c5) HV.out (by simp) NHV.out.1 NHV.out.2
              rw [e20]
              replace HW := Aside0.mk ((zo gw (iN HW.out HV.out (by decide))).trans HW.out)
              replace HV := Aside0.mk hV
              replace HD := Aside0.mk hD
              clear e20 hD hV zo
              refine hK.out _ _ (HD.out.b) (fun hHeld => ?_)
              clear hK K
              refine lS (i := 21) (N := none) #[true, true, true, true, true, true, true, true, true, true, true, true, true, true, true, true, true, true, true, true, true, true] rfl rfl (dx HT_.out (by kernel_rfl)) (by decide) (fun K hK => ?_)
              have z0 : yX.cell? ⟨gw,0,none⟩ = some (.int .i64 0) := (ah HW.out 0).trans rfl
              have z1 : yX.cell? ⟨gw,1,none⟩ = some (.bool false) := (ah HW.out 1).trans rfl
              have z2 : yX.cell? ⟨gw,2,none⟩ = some (.int .i64 0) := (ah HW.out 2).trans rfl
              have z3 : yX.cell? ⟨gw,3,none⟩ = some (.string (⟨#[]⟩ : ByteArray)) := (ah HW.out 3).trans rfl
              have z4 : yX.cell? ⟨gw,4,none⟩ = some (.slice none 0 0) := (ah HW.out 4).trans rfl
              have z5 : yX.cell? ⟨gw,5,none⟩ = some (.slice none 0 0) := (ah HW.out 5).trans rfl
              have f0 := aj HW.out 0
              have f1 := aj HW.out 1
              have f2 := aj HW.out 2
              have f3 := aj HW.out 3
              have f4 := aj HW.out 4
              have f5 := aj HW.out 5
              refine ku (w1 := ?_) (by rfl) rfl ?_ ?_
              rotate_left
              · go_simp
                rfl
              clear z0 f0 z1 f1 z2 f2 z3 f3 z4 f4 z5 f5
              obtain ⟨Bo, e21, hD, hW, zq⟩ := HD.out.setW (.int .i64 u.f0) (.bool u.f1) (.int .i64 u.f2) (.string u.f3) (.slice B4 u.f4.length d4) (.slice B5 u.f5.length d5) HW.out (by simp) NHW.out.1 NHW.out.2
              rw [e21]
              replace HV := Aside0.mk ((zq gv (iN HV.out HW.out (by decide))).trans HV.out)
              replace HW := Aside0.mk hW
              replace HD := Aside0.mk hD
              clear e21 hD hW zq
              refine hK.out _ _ ?_
              clear hK K
              refine jh (gL HT_.out (by kernel_rfl)) ?_
              have HI0 := HI
              rcases HD.out with ⟨h4, vx, vy, hI⟩ | ⟨h4, vx, vy, hI⟩
              · have HT2 := Aside0.mk (Two.mk HV.out HW.out)
                have HOKE := Aside0.mk (uZ (B := w.heap.size) (g2 := g2) (g3 := g3) HD.out.ge NHV.out.1 NHW.out.1)
                have HI := Aside0.mk hI
                have H4 := Aside0.mk h4
                have AQ : (p.f0 == 4) = true := beq_iff_eq.mpr h4
                have hp0 : Bo.cell? ⟨gp,0,none⟩ = some (.int .i64 p.f0) := (ah HI.out.hp 0).trans rfl
                have HST := Aside0.mk (rD (X := X) (by rw [← HQ.out.2.2.2.2] ; exact HX.out) h4 HQ.out.1 HQ.out.2.1 HQ.out.2.2.1 HQ.out.2.2.2.1)
                clear hI h4 HD HV HW NHV NHW HDB
                go_wp2
                clear hp0 AQ
                refine iE (n := 14) (S := fun w' => w'.heap[gx]? = some (.cells (cL p vx) 29 (0, 0)) ∧ w'.heap[gy]? = some (.cells (cL p vy) 33 (0, 0)) ∧ w'.heap[gv]? = some (.cells #[.int .i64 v.f0,.bool v.f1,.int .i64 v.f2,.string v.f3,.slice A4 v.f4.length c4,.slice A5 v.f5.length c5] 29 (0, 0)) ∧ w'.heap[gw]? = some (.cells #[.int .i64 u.f0,.bool u.f1,.int .i64 u.f2,.string u.f3,.slice B4 u.f4.length d4,.slice B5 u.f5.length d5] 33 (0, 0))) (ds := [11, 13]) #[false, false, false, false, false, false, false, false, false, false, false, false, false, false] (by kernel_rfl) rfl rfl ⟨HI.out.drew.hx, HI.out.drew.hy, (HT2.out.below (dQ (Below.refl _ _))).v, (HT2.out.below (dQ (Below.refl _ _))).w⟩ (fun hHeld => ?_)
                refine fB aZ.wX aZ.vU (fun HT_ HW_ => ?_)
                replace HI := Aside0.mk HI.out.drew
                replace HT2 := Aside0.mk (HT2.out.below (dQ (Below.refl _ _)))
                refine bE (i := 0) (N := some 81) (v := ?_) (a' := ?_) #[true, false, false, false, false, false, false, false, false, false, false, false, false, false] rfl rfl (bg HT_.out (by kernel_rfl)) (fun _ _ _ h => h) (Or.inl ⟨by rfl, ?_⟩) ?_ ?_
                rotate_left
                · intro w'
                  go_simp
                  with_reducible rfl
                rotate_left
                · simp only [Act.put, List.setIfInBounds_toArray, List.set_cons_zero, List.set_cons_succ, aT, aU]
                  rfl
                refine bE (i := 5) (N := some 86) (v := ?_) (a' := ?_) #[true, false, false, false, false, true, false, false, false, false, false, false, false, false] rfl rfl (bg HT_.out (by kernel_rfl)) (fun _ _ _ h => h) (Or.inl ⟨by rfl, ?_⟩) ?_ ?_
                rotate_left
                · intro w'
                  go_simp
                  with_reducible rfl
                rotate_left
                · simp only [Act.put, List.setIfInBounds_toArray, List.set_cons_zero, List.set_cons_succ, aT, aU]
                  rfl
                refine dI (i := 1) (N := some 82) (v := ?_) (a' := ?_) #[true, true, false, false, false, true, false, false, false, false, false, false, false, false] rfl rfl (bU HT_.out HW_.out (by kernel_rfl)) (fun _ _ _ h => h) (Or.inl ⟨by rfl, ?_⟩) hHeld ?_ ?_
                rotate_left
                · rintro w' ⟨s0, s1, s2, s3⟩
                  have e0 : w'.cell? ⟨gx,4,none⟩ = some vx := (ah s0 4).trans rfl
                  have e1 : w'.cell? ⟨gy,4,none⟩ = some vy := (ah s1 4).trans rfl
                  have a0 : w'.cell? ⟨gv,0,none⟩ = some (.int .i64 v.f0) := (ah s2 0).trans rfl
                  have a1 : w'.cell? ⟨gv,1,none⟩ = some (.bool v.f1) := (ah s2 1).trans rfl
                  have a2 : w'.cell? ⟨gv,2,none⟩ = some (.int .i64 v.f2) := (ah s2 2).trans rfl
                  have a3 : w'.cell? ⟨gv,3,none⟩ = some (.string v.f3) := (ah s2 3).trans rfl
                  have a4 : w'.cell? ⟨gv,4,none⟩ = some (.slice A4 v.f4.length c4) := (ah s2 4).trans rfl
                  have a5 : w'.cell? ⟨gv,5,none⟩ = some (.slice A5 v.f5.length c5) := (ah s2 5).trans rfl
                  have b0 : w'.cell? ⟨gw,0,none⟩ = some (.int .i64 u.f0) := (ah s3 0).trans rfl
                  have b1 : w'.cell? ⟨gw,1,none⟩ = some (.bool u.f1) := (ah s3 1).trans rfl
                  have b2 : w'.cell? ⟨gw,2,none⟩ = some (.int .i64 u.f2) := (ah s3 2).trans rfl
                  have b3 : w'.cell? ⟨gw,3,none⟩ = some (.string u.f3) := (ah s3 3).trans rfl
                  have b4 : w'.cell? ⟨gw,4,none⟩ = some (.slice B4 u.f4.length d4) := (ah s3 4).trans rfl
                  have b5 : w'.cell? ⟨gw,5,none⟩ = some (.slice B5 u.f5.length d5) := (ah s3 5).trans rfl
                  go_simp
                  with_reducible rfl
                rotate_left
                · simp only [Act.put, List.setIfInBounds_toArray, List.set_cons_zero, List.set_cons_succ, aT, aU]
                  rfl
                refine dI (i := 2) (N := some 83) (v := ?_) (a' := ?_) #[true, true, true, false, false, true, false, false, false, false, false, false, false, false] rfl rfl (bU HT_.out HW_.out (by kernel_rfl)) (fun _ _ _ h => h) (Or.inl ⟨by rfl, ?_⟩) hHeld ?_ ?_
                rotate_left
                · rintro w' ⟨s0, s1, s2, s3⟩
                  have e0 : w'.cell? ⟨gx,4,none⟩ = some vx := (ah s0 4).trans rfl
                  have e1 : w'.cell? ⟨gy,4,none⟩ = some vy := (ah s1 4).trans rfl
                  have a0 : w'.cell? ⟨gv,0,none⟩ = some (.int .i64 v.f0) := (ah s2 0).trans rfl
                  have a1 : w'.cell? ⟨gv,1,none⟩ = some (.bool v.f1) := (ah s2 1).trans rfl
                  have a2 : w'.cell? ⟨gv,2,none⟩ = some (.int .i64 v.f2) := (ah s2 2).trans rfl
                  have a3 : w'.cell? ⟨gv,3,none⟩ = some (.string v.f3) := (ah s2 3).trans rfl
                  have a4 : w'.cell? ⟨gv,4,none⟩ = some (.slice A4 v.f4.length c4) := (ah s2 4).trans rfl
                  have a5 : w'.cell? ⟨gv,5,none⟩ = some (.slice A5 v.f5.length c5) := (ah s2 5).trans rfl
                  have b0 : w'.cell? ⟨gw,0,none⟩ = some (.int .i64 u.f0) := (ah s3 0).trans rfl
                  have b1 : w'.cell? ⟨gw,1,none⟩ = some (.bool u.f1) := (ah s3 1).trans rfl
                  have b2 : w'.cell? ⟨gw,2,none⟩ = some (.int .i64 u.f2) := (ah s3 2).trans rfl
                  have b3 : w'.cell? ⟨gw,3,none⟩ = some (.string u.f3) := (ah s3 3).trans rfl
                  have b4 : w'.cell? ⟨gw,4,none⟩ = some (.slice B4 u.f4.length d4) := (ah s3 4).trans rfl
                  have b5 : w'.cell? ⟨gw,5,none⟩ = some (.slice B5 u.f5.length d5) := (ah s3 5).trans rfl
                  go_simp
                  with_reducible rfl
                rotate_left
                · simp only [Act.put, List.setIfInBounds_toArray, List.set_cons_zero, List.set_cons_succ, aT, aU]
                  rfl
                refine dI (i := 6) (N := some 87) (v := ?_) (a' := ?_) #[true, true, true, false, false, true, true, false, false, false, false, false, false, false] rfl rfl (bU HT_.out HW_.out (by kernel_rfl)) (fun _ _ _ h => h) (Or.inl ⟨by rfl, ?_⟩) hHeld ?_ ?_
                rotate_left
                · rintro w' ⟨s0, s1, s2, s3⟩
                  have e0 : w'.cell? ⟨gx,4,none⟩ = some vx := (ah s0 4).trans rfl
                  have e1 : w'.cell? ⟨gy,4,none⟩ = some vy := (ah s1 4).trans rfl
                  have a0 : w'.cell? ⟨gv,0,none⟩ = some (.int .i64 v.f0) := (ah s2 0).trans rfl
                  have a1 : w'.cell? ⟨gv,1,none⟩ = some (.bool v.f1) := (ah s2 1).trans rfl
                  have a2 : w'.cell? ⟨gv,2,none⟩ = some (.int .i64 v.f2) := (ah s2 2).trans rfl
                  have a3 : w'.cell? ⟨gv,3,none⟩ = some (.string v.f3) := (ah s2 3).trans rfl
                  have a4 : w'.cell? ⟨gv,4,none⟩ = some (.slice A4 v.f4.length c4) := (ah s2 4).trans rfl
                  have a5 : w'.cell? ⟨gv,5,none⟩ = some (.slice A5 v.f5.length c5) := (ah s2 5).trans rfl
                  have b0 : w'.cell? ⟨gw,0,none⟩ = some (.int .i64 u.f0) := (ah s3 0).trans rfl
                  have b1 : w'.cell? ⟨gw,1,none⟩ = some (.bool u.f1) := (ah s3 1).trans rfl
                  have b2 : w'.cell? ⟨gw,2,none⟩ = some (.int .i64 u.f2) := (ah s3 2).trans rfl
                  have b3 : w'.cell? ⟨gw,3,none⟩ = some (.string u.f3) := (ah s3 3).trans rfl
                  have b4 : w'.cell? ⟨gw,4,none⟩ = some (.slice B4 u.f4.length d4) := (ah s3 4).trans rfl
                  have b5 : w'.cell? ⟨gw,5,none⟩ = some (.slice B5 u.f5.length d5) := (ah s3 5).trans rfl
                  go_simp
                  with_reducible rfl
                rotate_left
                · simp only [Act.put, List.setIfInBounds_toArray, List.set_cons_zero, List.set_cons_succ, aT, aU]
                  rfl
                refine dI (i := 7) (N := some 88) (v := ?_) (a' := ?_) #[true, true, true, false, false, true, true, true, false, false, false, false, false, false] rfl rfl (bU HT_.out HW_.out (by kernel_rfl)) (fun _ _ _ h => h) (Or.inl ⟨by rfl, ?_⟩) hHeld ?_ ?_
                rotate_left
                · rintro w' ⟨s0, s1, s2, s3⟩
                  have e0 : w'.cell? ⟨gx,4,none⟩ = some vx := (ah s0 4).trans rfl
                  have e1 : w'.cell? ⟨gy,4,none⟩ = some vy := (ah s1 4).trans rfl
                  have a0 : w'.cell? ⟨gv,0,none⟩ = some (.int .i64 v.f0) := (ah s2 0).trans rfl
                  have a1 : w'.cell? ⟨gv,1,none⟩ = some (.bool v.f1) := (ah s2 1).trans rfl
                  have a2 : w'.cell? ⟨gv,2,none⟩ = some (.int .i64 v.f2) := (ah s2 2).trans rfl
                  have a3 : w'.cell? ⟨gv,3,none⟩ = some (.string v.f3) := (ah s2 3).trans rfl
                  have a4 : w'.cell? ⟨gv,4,none⟩ = some (.slice A4 v.f4.length c4) := (ah s2 4).trans rfl
                  have a5 : w'.cell? ⟨gv,5,none⟩ = some (.slice A5 v.f5.length c5) := (ah s2 5).trans rfl
                  have b0 : w'.cell? ⟨gw,0,none⟩ = some (.int .i64 u.f0) := (ah s3 0).trans rfl
                  have b1 : w'.cell? ⟨gw,1,none⟩ = some (.bool u.f1) := (ah s3 1).trans rfl
                  have b2 : w'.cell? ⟨gw,2,none⟩ = some (.int .i64 u.f2) := (ah s3 2).trans rfl
                  have b3 : w'.cell? ⟨gw,3,none⟩ = some (.string u.f3) := (ah s3 3).trans rfl
                  have b4 : w'.cell? ⟨gw,4,none⟩ = some (.slice B4 u.f4.length d4) := (ah s3 4).trans rfl
                  have b5 : w'.cell? ⟨gw,5,none⟩ = some (.slice B5 u.f5.length d5) := (ah s3 5).trans rfl
                  go_simp
                  with_reducible rfl
                rotate_left
                · simp only [Act.put, List.setIfInBounds_toArray, List.set_cons_zero, List.set_cons_succ, aT, aU]
                  rfl
                refine oQ (σ := Value × Value × Value) 4 #[true, true, true, true, true, true, true, true, true, false, true, false, false, false] (fun s => [(84, s.1), (85, s.2.1), (89, s.2.2), (91, .pointer (some ⟨gx,4,none⟩))]) (fun s w' => Aside0 (InL w.heap.size [gv, gw, gp, gx, gy, g2, g3] w1 w' gp gx gy p vx vy s.2.1 vy (X.f4.take j ++ [v]) (cZ (X.f4.take j))) ∧ Aside0 (Two w' gv gw #[.int .i64 v.f0,.bool v.f1,.int .i64 v.f2,.string v.f3,.slice A4 v.f4.length c4,.slice A5 v.f5.length c5] #[.int .i64 u.f0,.bool u.f1,.int .i64 u.f2,.string u.f3,.slice B4 u.f4.length d4,.slice B5 u.f5.length d5]) ∧ Aside0 (Kd.N k33 33 w' w1.heap.size (fun k => (okG w.heap.size [gv, gw, gp, gx, gy, g2, g3] k ∧ some k ≠ s.2.1.ownBlock) ∧ some k ≠ vy.ownBlock) s.2.2 [u])) ?_ ?_
                rotate_left
                · intro hCont
                  refine mR (i := 3) (j := 8) (Ni := some 84) (Nj := some 89) #[true, true, true, true, false, true, true, true, false, false, false, false, false, false] #[true, true, true, false, false, true, true, true, true, false, false, false, false, false] rfl rfl rfl rfl (iW HT_.out (by kernel_rfl)) (by decide) (by decide) (fun K hK => ?_) (fun K hK => ?_)
                  · skip
                    refine Kd.dA k29 (w0 := w1) w1.heap.size 29 ?hg (N' := 84) ?hd (xs := [v]) (inner := [.int .i64 v.f0, .bool v.f1, .int .i64 v.f2, .string v.f3, .slice A4 v.f4.length c4, .slice A5 v.f5.length c5]) (ok := (fun k => (okG w.heap.size [gv, gw, gp, gx, gy, g2, g3] k ∧ some k ≠ vy.ownBlock) ∧ some k ≠ vx.ownBlock)) (okp := (fun k => okG w.heap.size [g2, g3] k ∧ k < w1.heap.size)) ?hr ?hp (fun k hk => HI.out.old (HOKE.out k hk) hk.2) (HI.out.fresh (Nat.le_refl _)) HI.out.b HI.out.b.size (by simp) ?_
                    (case hd => rfl)
                    (case hg => rfl)
                    (case hr => first | (go_simp; done) | (go_simp; rfl))
                    (case hp => exact cu.c6 (show Kd.FK k29 _ _ v [.int .i64 v.f0, .bool v.f1, .int .i64 v.f2, .string v.f3, .slice A4 v.f4.length c4, .slice A5 v.f5.length c5] from iI _ _ v HVL.out.1 (gM zm.out HI.out.b) HVL.out.2 (gM zn.out HI.out.b)) (cu.none _ _))
                    intro v84 wa hn hb_ hg_ hnew_
                    have hb2 := dB hg_
                    clear hb_ hg_ hnew_
                    replace HI := Aside0.mk (HI.out.below hb2)
                    replace HT2 := Aside0.mk (HT2.out.below hb2)
                    have LX := Aside0.mk hn
                    clear hn hb2
                    obtain ⟨Ax, cx, ex⟩ := Kd.eu LX.out
                    subst ex
                    refine hK.out _ _ ⟨HI.out.hx, HI.out.hy, HT2.out.v, HT2.out.w⟩ (fun hHeld => ?_)
                    clear hK K
                    refine cB (a' := ?_) ?_ ?_
                    rotate_left
                    · show Act.put _ (some 84) _ = _
                      simp only [Act.put, List.setIfInBounds_toArray, List.set_cons_zero, List.set_cons_succ, aT, aU]
                      rfl
                    refine mR (i := 4) (j := 8) (Ni := some 85) (Nj := some 89) #[true, true, true, true, true, true, true, true, false, false, false, false, false, false] #[true, true, true, true, false, true, true, true, true, false, false, false, false, false] rfl rfl rfl rfl (iW HT_.out (by kernel_rfl)) (by decide) (by decide) (fun K hK => ?_) (fun K hK => ?_)
                    · skip
                      refine Kd.eZ k29 (w0 := w1) w1.heap.size (by rfl) (.tmp 82) (.tmp 84) 26 29 (.agg #[(.int .i64 0),(.bool false),(.int .i64 0),(.string ⟨#[]⟩),(.slice none 0 0),(.slice none 0 0)]) 88 rfl Tryd.underlying26 jD rfl (by decide) (by omega) vx (X.f4.take j) [v] Ax [v].length cx (fun k => okG w.heap.size [gv, gw, gp, gx, gy, g2, g3] k ∧ some k ≠ vy.ownBlock) (fun k => (okG w.heap.size [gv, gw, gp, gx, gy, g2, g3] k ∧ some k ≠ vy.ownBlock) ∧ some k ≠ vx.ownBlock) rfl rfl HI.out.nx (Kd.N_F LX.out) (fun _ hk => hk) (fun k hk => (HI.out.fresh hk).1) HI.out.b HI.out.b.size (by have := HXL.out; rw [List.length_take, List.length_singleton]; omega) ?_
                      intro v85 wa hn hb hg hat
                      replace HT2 := Aside0.mk (HT2.out.grown hg (HI.out.away (by simp)).1 (HI.out.away (by simp)).1)
                      replace HI := Aside0.mk (HI.out.qF hn hb hg hat)
                      clear hn hb hg hat LX
                      refine hK.out _ _ ⟨HI.out.hx, HI.out.hy, HT2.out.v, HT2.out.w⟩ (fun hHeld => ?_)
                      clear hK K
                      refine cB (a' := ?_) ?_ ?_
                      rotate_left
                      · show Act.put _ (some 85) _ = _
                        simp only [Act.put, List.setIfInBounds_toArray, List.set_cons_zero, List.set_cons_succ, aT, aU]
                        rfl
                      refine bE (i := 10) (N := some 91) (v := ?_) (a' := ?_) #[true, true, true, true, true, true, true, true, false, false, true, false, false, false] rfl rfl (bg HT_.out (by kernel_rfl)) (fun _ _ _ h => h) (Or.inl ⟨by rfl, ?_⟩) ?_ ?_
                      rotate_left
                      · intro w'
                        go_simp
                        with_reducible rfl
                      rotate_left
                      · simp only [Act.put, List.setIfInBounds_toArray, List.set_cons_zero, List.set_cons_succ, aT, aU]
                        rfl
                      refine fM (i := 8) (N := some 89) #[true, true, true, true, true, true, true, true, true, false, true, false, false, false] rfl rfl (dx HT_.out (by kernel_rfl)) (by decide) (fun K hK => ?_)
                      refine Kd.dA k33 (w0 := w1) w1.heap.size 33 ?hg (N' := 89) ?hd (xs := [u]) (inner := [.int .i64 u.f0, .bool u.f1, .int .i64 u.f2, .string u.f3, .slice B4 u.f4.length d4, .slice B5 u.f5.length d5]) (ok := (fun k => (okG w.heap.size [gv, gw, gp, gx, gy, g2, g3] k ∧ some k ≠ v85.ownBlock) ∧ some k ≠ vy.ownBlock)) (okp := (fun k => okG w.heap.size [g2, g3] k ∧ k < w1.heap.size)) ?hr ?hp (fun k hk => HI.out.uI (HOKE.out k hk) hk.2) (HI.out.lH (Nat.le_refl _)) HI.out.b HI.out.b.size (by simp) ?_
                      (case hd => rfl)
                      (case hg => rfl)
                      (case hr => first | (go_simp; done) | (go_simp; rfl))
                      (case hp => exact cu.c6 (show Kd.FK k33 _ _ u [.int .i64 u.f0, .bool u.f1, .int .i64 u.f2, .string u.f3, .slice B4 u.f4.length d4, .slice B5 u.f5.length d5] from jF _ _ u HUL.out.1 (gM yU.out HI.out.b) HUL.out.2 (gM yV.out HI.out.b)) (cu.none _ _))
                      intro v89 wa hn hb_ hg_ hnew_
                      have hb2 := dB hg_
                      clear hb_ hg_ hnew_
                      replace HI := Aside0.mk (HI.out.below hb2)
                      replace HT2 := Aside0.mk (HT2.out.below hb2)
                      have LY := Aside0.mk hn
                      clear hn hb2
                      obtain ⟨Ay, cy, ey⟩ := Kd.eu LY.out
                      subst ey
                      refine hK.out _ _ ⟨HI.out.hx, HI.out.hy, HT2.out.v, HT2.out.w⟩ (fun hHeld => ?_)
                      clear hK K
                      refine cB (a' := ?_) ?_ ?_
                      rotate_left
                      · show Act.put _ (some 89) _ = _
                        simp only [Act.put, List.setIfInBounds_toArray, List.set_cons_zero, List.set_cons_succ, aT, aU]
                        rfl
                      exact cB (by simp only [fO, Act.put, List.setIfInBounds_toArray, List.set_cons_zero, List.set_cons_succ]) (hCont (Value.slice Ax [v].length cx, v85, Value.slice Ay [u].length cy) _ ⟨HI, HT2, LY⟩)
                    · skip
                      refine Kd.dA k33 (w0 := w1) w1.heap.size 33 ?hg (N' := 89) ?hd (xs := [u]) (inner := [.int .i64 u.f0, .bool u.f1, .int .i64 u.f2, .string u.f3, .slice B4 u.f4.length d4, .slice B5 u.f5.length d5]) (ok := (fun k => (okG w.heap.size [gv, gw, gp, gx, gy, g2, g3] k ∧ some k ≠ vx.ownBlock) ∧ some k ≠ vy.ownBlock)) (okp := (fun k => okG w.heap.size [g2, g3] k ∧ k < w1.heap.size)) ?hr ?hp (fun k hk => HI.out.uI (HOKE.out k hk) hk.2) (HI.out.lH (Nat.le_refl _)) HI.out.b HI.out.b.size (by simp) ?_
                      (case hd => rfl)
                      (case hg => rfl)
                      (case hr => first | (go_simp; done) | (go_simp; rfl))
                      (case hp => exact cu.c6 (show Kd.FK k33 _ _ u [.int .i64 u.f0, .bool u.f1, .int .i64 u.f2, .string u.f3, .slice B4 u.f4.length d4, .slice B5 u.f5.length d5] from jF _ _ u HUL.out.1 (gM yU.out HI.out.b) HUL.out.2 (gM yV.out HI.out.b)) (cu.none _ _))
                      intro v89 wa hn hb_ hg_ hnew_
                      have hb2 := dB hg_
                      clear hb_ hg_ hnew_
                      replace HI := Aside0.mk (HI.out.below hb2)
                      replace HT2 := Aside0.mk (HT2.out.below hb2)
                      replace LX := Aside0.mk (Kd.fC LX.out hb2)
                      have LY := Aside0.mk hn
                      clear hn hb2
                      obtain ⟨Ay, cy, ey⟩ := Kd.eu LY.out
                      subst ey
                      refine hK.out _ _ ⟨HI.out.hx, HI.out.hy, HT2.out.v, HT2.out.w⟩ (fun hHeld => ?_)
                      clear hK K
                      refine cB (a' := ?_) ?_ ?_
                      rotate_left
                      · show Act.put _ (some 89) _ = _
                        simp only [Act.put, List.setIfInBounds_toArray, List.set_cons_zero, List.set_cons_succ, aT, aU]
                        rfl
                      refine fM (i := 4) (N := some 85) #[true, true, true, true, true, true, true, true, true, false, false, false, false, false] rfl rfl (dx HT_.out (by kernel_rfl)) (by decide) (fun K hK => ?_)
                      refine Kd.eZ k29 (w0 := w1) w1.heap.size (by rfl) (.tmp 82) (.tmp 84) 26 29 (.agg #[(.int .i64 0),(.bool false),(.int .i64 0),(.string ⟨#[]⟩),(.slice none 0 0),(.slice none 0 0)]) 88 rfl Tryd.underlying26 jD rfl (by decide) (by omega) vx (X.f4.take j) [v] Ax [v].length cx (fun k => okG w.heap.size [gv, gw, gp, gx, gy, g2, g3] k ∧ some k ≠ vy.ownBlock) (fun k => (okG w.heap.size [gv, gw, gp, gx, gy, g2, g3] k ∧ some k ≠ vy.ownBlock) ∧ some k ≠ vx.ownBlock) rfl rfl HI.out.nx (Kd.N_F LX.out) (fun _ hk => hk) (fun k hk => (HI.out.fresh hk).1) HI.out.b HI.out.b.size (by have := HXL.out; rw [List.length_take, List.length_singleton]; omega) ?_
                      intro v85 wa hn hb hg hat
                      replace LY := Aside0.mk (mg (Kd.kR (mg LY.out) hg hat))
                      replace HT2 := Aside0.mk (HT2.out.grown hg (HI.out.away (by simp)).1 (HI.out.away (by simp)).1)
                      replace HI := Aside0.mk (HI.out.qF hn hb hg hat)
                      clear hn hb hg hat LX
                      refine hK.out _ _ ⟨HI.out.hx, HI.out.hy, HT2.out.v, HT2.out.w⟩ (fun hHeld => ?_)
                      clear hK K
                      refine cB (a' := ?_) ?_ ?_
                      rotate_left
                      · show Act.put _ (some 85) _ = _
                        simp only [Act.put, List.setIfInBounds_toArray, List.set_cons_zero, List.set_cons_succ, aT, aU]
                        rfl
                      refine bE (i := 10) (N := some 91) (v := ?_) (a' := ?_) #[true, true, true, true, true, true, true, true, true, false, true, false, false, false] rfl rfl (bg HT_.out (by kernel_rfl)) (fun _ _ _ h => h) (Or.inl ⟨by rfl, ?_⟩) ?_ ?_
                      rotate_left
                      · intro w'
                        go_simp
                        with_reducible rfl
                      rotate_left
                      · simp only [Act.put, List.setIfInBounds_toArray, List.set_cons_zero, List.set_cons_succ, aT, aU]
                        rfl
                      exact cB (by simp only [fO, Act.put, List.setIfInBounds_toArray, List.set_cons_zero, List.set_cons_succ]) (hCont (Value.slice Ax [v].length cx, v85, Value.slice Ay [u].length cy) _ ⟨HI, HT2, LY⟩)
                  · skip
                    refine Kd.dA k33 (w0 := w1) w1.heap.size 33 ?hg (N' := 89) ?hd (xs := [u]) (inner := [.int .i64 u.f0, .bool u.f1, .int .i64 u.f2, .string u.f3, .slice B4 u.f4.length d4, .slice B5 u.f5.length d5]) (ok := (fun k => (okG w.heap.size [gv, gw, gp, gx, gy, g2, g3] k ∧ some k ≠ vx.ownBlock) ∧ some k ≠ vy.ownBlock)) (okp := (fun k => okG w.heap.size [g2, g3] k ∧ k < w1.heap.size)) ?hr ?hp (fun k hk => HI.out.uI (HOKE.out k hk) hk.2) (HI.out.lH (Nat.le_refl _)) HI.out.b HI.out.b.size (by simp) ?_
                    (case hd => rfl)
                    (case hg => rfl)
                    (case hr => first | (go_simp; done) | (go_simp; rfl))
                    (case hp => exact cu.c6 (show Kd.FK k33 _ _ u [.int .i64 u.f0, .bool u.f1, .int .i64 u.f2, .string u.f3, .slice B4 u.f4.length d4, .slice B5 u.f5.length d5] from jF _ _ u HUL.out.1 (gM yU.out HI.out.b) HUL.out.2 (gM yV.out HI.out.b)) (cu.none _ _))
                    intro v89 wa hn hb_ hg_ hnew_
                    have hb2 := dB hg_
                    clear hb_ hg_ hnew_
                    replace HI := Aside0.mk (HI.out.below hb2)
                    replace HT2 := Aside0.mk (HT2.out.below hb2)
                    have LY := Aside0.mk hn
                    clear hn hb2
                    obtain ⟨Ay, cy, ey⟩ := Kd.eu LY.out
                    subst ey
                    refine hK.out _ _ ⟨HI.out.hx, HI.out.hy, HT2.out.v, HT2.out.w⟩ (fun hHeld => ?_)
                    clear hK K
                    refine cB (a' := ?_) ?_ ?_
                    rotate_left
                    · show Act.put _ (some 89) _ = _
                      simp only [Act.put, List.setIfInBounds_toArray, List.set_cons_zero, List.set_cons_succ, aT, aU]
                      rfl
                    refine fM (i := 3) (N := some 84) #[true, true, true, true, false, true, true, true, true, false, false, false, false, false] rfl rfl (dx HT_.out (by kernel_rfl)) (by decide) (fun K hK => ?_)
                    refine Kd.dA k29 (w0 := w1) w1.heap.size 29 ?hg (N' := 84) ?hd (xs := [v]) (inner := [.int .i64 v.f0, .bool v.f1, .int .i64 v.f2, .string v.f3, .slice A4 v.f4.length c4, .slice A5 v.f5.length c5]) (ok := (fun k => (okG w.heap.size [gv, gw, gp, gx, gy, g2, g3] k ∧ some k ≠ vy.ownBlock) ∧ some k ≠ vx.ownBlock)) (okp := (fun k => okG w.heap.size [g2, g3] k ∧ k < w1.heap.size)) ?hr ?hp (fun k hk => HI.out.old (HOKE.out k hk) hk.2) (HI.out.fresh (Nat.le_refl _)) HI.out.b HI.out.b.size (by simp) ?_
                    (case hd => rfl)
                    (case hg => rfl)
                    (case hr => first | (go_simp; done) | (go_simp; rfl))
                    (case hp => exact cu.c6 (show Kd.FK k29 _ _ v [.int .i64 v.f0, .bool v.f1, .int .i64 v.f2, .string v.f3, .slice A4 v.f4.length c4, .slice A5 v.f5.length c5] from iI _ _ v HVL.out.1 (gM zm.out HI.out.b) HVL.out.2 (gM zn.out HI.out.b)) (cu.none _ _))
                    intro v84 wa hn hb_ hg_ hnew_
                    have hb2 := dB hg_
                    clear hb_ hg_ hnew_
                    replace HI := Aside0.mk (HI.out.below hb2)
                    replace HT2 := Aside0.mk (HT2.out.below hb2)
                    replace LY := Aside0.mk (Kd.fC LY.out hb2)
                    have LX := Aside0.mk hn
                    clear hn hb2
                    obtain ⟨Ax, cx, ex⟩ := Kd.eu LX.out
                    subst ex
                    refine hK.out _ _ ⟨HI.out.hx, HI.out.hy, HT2.out.v, HT2.out.w⟩ (fun hHeld => ?_)
                    clear hK K
                    refine cB (a' := ?_) ?_ ?_
                    rotate_left
                    · show Act.put _ (some 84) _ = _
                      simp only [Act.put, List.setIfInBounds_toArray, List.set_cons_zero, List.set_cons_succ, aT, aU]
                      rfl
                    refine fM (i := 4) (N := some 85) #[true, true, true, true, true, true, true, true, true, false, false, false, false, false] rfl rfl (dx HT_.out (by kernel_rfl)) (by decide) (fun K hK => ?_)
                    refine Kd.eZ k29 (w0 := w1) w1.heap.size (by rfl) (.tmp 82) (.tmp 84) 26 29 (.agg #[(.int .i64 0),(.bool false),(.int .i64 0),(.string ⟨#[]⟩),(.slice none 0 0),(.slice none 0 0)]) 88 rfl Tryd.underlying26 jD rfl (by decide) (by omega) vx (X.f4.take j) [v] Ax [v].length cx (fun k => okG w.heap.size [gv, gw, gp, gx, gy, g2, g3] k ∧ some k ≠ vy.ownBlock) (fun k => (okG w.heap.size [gv, gw, gp, gx, gy, g2, g3] k ∧ some k ≠ vy.ownBlock) ∧ some k ≠ vx.ownBlock) rfl rfl HI.out.nx (Kd.N_F LX.out) (fun _ hk => hk) (fun k hk => (HI.out.fresh hk).1) HI.out.b HI.out.b.size (by have := HXL.out; rw [List.length_take, List.length_singleton]; omega) ?_
                    intro v85 wa hn hb hg hat
                    replace LY := Aside0.mk (mg (Kd.kR (mg LY.out) hg hat))
                    replace HT2 := Aside0.mk (HT2.out.grown hg (HI.out.away (by simp)).1 (HI.out.away (by simp)).1)
                    replace HI := Aside0.mk (HI.out.qF hn hb hg hat)
                    clear hn hb hg hat LX
                    refine hK.out _ _ ⟨HI.out.hx, HI.out.hy, HT2.out.v, HT2.out.w⟩ (fun hHeld => ?_)
                    clear hK K
                    refine cB (a' := ?_) ?_ ?_
                    rotate_left
                    · show Act.put _ (some 85) _ = _
                      simp only [Act.put, List.setIfInBounds_toArray, List.set_cons_zero, List.set_cons_succ, aT, aU]
                      rfl
                    refine bE (i := 10) (N := some 91) (v := ?_) (a' := ?_) #[true, true, true, true, true, true, true, true, true, false, true, false, false, false] rfl rfl (bg HT_.out (by kernel_rfl)) (fun _ _ _ h => h) (Or.inl ⟨by rfl, ?_⟩) ?_ ?_
                    rotate_left
                    · intro w'
                      go_simp
                      with_reducible rfl
                    rotate_left
                    · simp only [Act.put, List.setIfInBounds_toArray, List.set_cons_zero, List.set_cons_succ, aT, aU]
                      rfl
                    exact cB (by simp only [fO, Act.put, List.setIfInBounds_toArray, List.set_cons_zero, List.set_cons_succ]) (hCont (Value.slice Ax [v].length cx, v85, Value.slice Ay [u].length cy) _ ⟨HI, HT2, LY⟩)
                rintro ⟨v84, v85, v89⟩ wq ⟨HI, HT2, LY⟩
                dsimp only at HI HT2 LY
                have hHeld := (⟨HI.out.hx, HI.out.hy, HT2.out.v, HT2.out.w⟩ : _ ∧ _ ∧ _ ∧ _)
                obtain ⟨Ay, cy, ey⟩ := Kd.eu LY.out
                subst ey
                refine cB (a' := ?_) ?_ ?_
                rotate_left
                · simp only [fO, Act.put, List.setIfInBounds_toArray, List.set_cons_zero, List.set_cons_succ]
                  rfl
                refine fM (i := 9) (N := some 90) #[true, true, true, true, true, true, true, true, true, true, true, false, false, false] rfl rfl (dx HT_.out (by kernel_rfl)) (by decide) (fun K hK => ?_)
                refine Kd.eZ k33 (w0 := w1) w1.heap.size (by rfl) (.tmp 87) (.tmp 89) 30 33 (.agg #[(.int .i64 0),(.bool false),(.int .i64 0),(.string ⟨#[]⟩),(.slice none 0 0),(.slice none 0 0)]) 88 rfl Tryd.underlying30 oC rfl (by decide) (by omega) vy (cZ (X.f4.take j)) [u] Ay [u].length cy (fun k => okG w.heap.size [gv, gw, gp, gx, gy, g2, g3] k ∧ some k ≠ v85.ownBlock) (fun k => (okG w.heap.size [gv, gw, gp, gx, gy, g2, g3] k ∧ some k ≠ v85.ownBlock) ∧ some k ≠ vy.ownBlock) rfl rfl HI.out.ny (Kd.N_F LY.out) (fun _ hk => hk) (fun k hk => (HI.out.lH hk).1) HI.out.b HI.out.b.size (by have := HXL.out; rw [dW, List.length_take, List.length_singleton]; omega) ?_
                intro Cy wb hn hb hg hat
                replace HT2 := Aside0.mk (HT2.out.grown hg (HI.out.away (by simp)).2 (HI.out.away (by simp)).2)
                replace HI := Aside0.mk (HI.out.uV hn hb hg hat)
                clear hn hb hg hat LY
                refine hK.out _ _ ⟨HI.out.hx, HI.out.hy, HT2.out.v, HT2.out.w⟩ (fun hHeld => ?_)
                clear hK K
                refine cB (a' := ?_) ?_ ?_
                rotate_left
                · show Act.put _ (some 90) _ = _
                  simp only [Act.put, List.setIfInBounds_toArray, List.set_cons_zero, List.set_cons_succ, aT, aU]
                  rfl
                refine lS (i := 11) (N := none) #[true, true, true, true, true, true, true, true, true, true, true, true, false, false] rfl rfl (dx HT_.out (by kernel_rfl)) (by decide) (fun K hK => ?_)
                obtain ⟨XN, hXN⟩ : ∃ l, l = X.f4.take j ++ [v] := ⟨_, rfl⟩
                obtain ⟨YN, hYN⟩ : ∃ l, l = cZ (X.f4.take j) ++ [u] := ⟨_, rfl⟩
                rw [← hXN, ← hYN] at HI
                have HXY := Aside0.mk (⟨hXN, hYN⟩ : _ ∧ _)
                clear hXN hYN
                obtain ⟨Az, cz, ez⟩ := Kd.eu HI.out.nx
                subst ez
                have z4 : wb.cell? ⟨gx,4,none⟩ = some vx := (ah HI.out.hx 4).trans rfl
                have f4 := aj HI.out.hx 4
                refine ku (w1 := ?_) (by rfl) rfl ?_ ?_
                rotate_left
                · go_simp
                  rfl
                clear z4 f4
                replace HI := Aside0.mk (HI.out.wL (cx' := cL p (Value.slice Az XN.length cz)) 4 (Value.slice Az XN.length cz) rfl)
                generalize wb.setCell ⟨gx, 4, none⟩ (Value.slice Az XN.length cz) = wd at HI ⊢
                refine hK.out _ _ ?_
                clear hK K
                refine bE (i := 12) (N := some 92) (v := ?_) (a' := ?_) #[true, true, true, true, true, true, true, true, true, true, true, true, true, false] rfl rfl (bg HT_.out (by kernel_rfl)) (fun _ _ _ h => h) (Or.inl ⟨by rfl, ?_⟩) ?_ ?_
                rotate_left
                · intro w'
                  go_simp
                  with_reducible rfl
                rotate_left
                · simp only [Act.put, List.setIfInBounds_toArray, List.set_cons_zero, List.set_cons_succ, aT, aU]
                  rfl
                refine lS (i := 13) (N := none) #[true, true, true, true, true, true, true, true, true, true, true, true, true, true] rfl rfl (dx HT_.out (by kernel_rfl)) (by decide) (fun K hK => ?_)
                obtain ⟨Aw, cw, ew⟩ := Kd.eu HI.out.ny
                subst ew
                have z4 : wd.cell? ⟨gy,4,none⟩ = some vy := (ah HI.out.hy 4).trans rfl
                have f4 := aj HI.out.hy 4
                refine ku (w1 := ?_) (by rfl) rfl ?_ ?_
                rotate_left
                · go_simp
                  rfl
                clear z4 f4
                replace HI := Aside0.mk (HI.out.wM (cy' := cL p (Value.slice Aw YN.length cw)) 4 (Value.slice Aw YN.length cw) rfl)
                generalize wd.setCell ⟨gy, 4, none⟩ (Value.slice Aw YN.length cw) = we at HI ⊢
                refine hK.out _ _ ?_
                clear hK K
                refine jh (gL HT_.out (by kernel_rfl)) ?_
                have AU : wrap64 ((j : Int) + 1) = ((j + 1 : Nat) : Int) := iQ (by push_cast; rfl) (by have := HJK.out; have := HKL.out; have := HI0.out.2.2.1; have := HI0.out.2.1; have := HL.out; omega)
                try go_wp2
                go_roundg (K - (j + 1))
                case measure => have := HJ.out.1; have := HJK.out; omega
                case rel => exact ⟨j + 1, (by first | rfl | (simp; done) | (simp [*]; done)), ⟨rfl, HJK.out⟩, ⟨.inl ⟨H4.out, _, _, by rw [HST.out.2, HST.out.1, ← HXY.out.1, ← HXY.out.2]; exact HI.out.less (by simp) (by simp) (by simp) (by simp)⟩⟩⟩
              · have HT2 := Aside0.mk (Two.mk HV.out HW.out)
                have HOKE := Aside0.mk (uZ (B := w.heap.size) (g2 := g2) (g3 := g3) HD.out.ge NHV.out.1 NHW.out.1)
                have HI := Aside0.mk hI
                have H4 := Aside0.mk h4
                have AQ : (p.f0 == 4) = false := beq_eq_false_iff_ne.mpr h4
                have hp0 : Bo.cell? ⟨gp,0,none⟩ = some (.int .i64 p.f0) := (ah HI.out.hp 0).trans rfl
                obtain ⟨s, hs, hst⟩ := rE (X := X) (by rw [← HQ.out.2.2.2.2] ; exact HX.out) h4 HQ.out.1 HQ.out.2.1 HQ.out.2.2.1 HQ.out.2.2.2.1
                have HS := Aside0.mk hs
                have HST := Aside0.mk hst
                clear hs hst
                clear hI h4 HD HV HW NHV NHW HDB
                go_wp2
                clear hp0 AQ
                refine iE (n := 22) (S := fun w' => w'.heap[gx]? = some (.cells (cK p vx) 29 (0, 0)) ∧ w'.heap[gy]? = some (.cells (cK p vy) 33 (0, 0)) ∧ w'.heap[gv]? = some (.cells #[.int .i64 v.f0,.bool v.f1,.int .i64 v.f2,.string v.f3,.slice A4 v.f4.length c4,.slice A5 v.f5.length c5] 29 (0, 0)) ∧ w'.heap[gw]? = some (.cells #[.int .i64 u.f0,.bool u.f1,.int .i64 u.f2,.string u.f3,.slice B4 u.f4.length d4,.slice B5 u.f5.length d5] 33 (0, 0)) ∧ w'.heap[gp]? = some (.cells (cP p) 75 (0, 0))) (ds := [19, 21]) #[false, false, false, false, false, false, false, false, false, false, false, false, false, false, false, false, false, false, false, false, false, false] (by kernel_rfl) rfl rfl ⟨HI.out.drew.hx, HI.out.drew.hy, (HT2.out.below (dQ (Below.refl _ _))).v, (HT2.out.below (dQ (Below.refl _ _))).w, HI.out.drew.hp⟩ (fun hHeld => ?_)
                refine fB aZ.pK aZ.nA (fun HT_ HW_ => ?_)
                replace HI := Aside0.mk HI.out.drew
                replace HT2 := Aside0.mk (HT2.out.below (dQ (Below.refl _ _)))
                refine bE (i := 0) (N := some 93) (v := ?_) (a' := ?_) #[true, false, false, false, false, false, false, false, false, false, false, false, false, false, false, false, false, false, false, false, false, false] rfl rfl (bg HT_.out (by kernel_rfl)) (fun _ _ _ h => h) (Or.inl ⟨by rfl, ?_⟩) ?_ ?_
                rotate_left
                · intro w'
                  go_simp
                  with_reducible rfl
                rotate_left
                · simp only [Act.put, List.setIfInBounds_toArray, List.set_cons_zero, List.set_cons_succ, aT, aU]
                  rfl
                refine bE (i := 3) (N := some 96) (v := ?_) (a' := ?_) #[true, false, false, true, false, false, false, false, false, false, false, false, false, false, false, false, false, false, false, false, false, false] rfl rfl (bg HT_.out (by kernel_rfl)) (fun _ _ _ h => h) (Or.inl ⟨by rfl, ?_⟩) ?_ ?_
                rotate_left
                · intro w'
                  go_simp
                  with_reducible rfl
                rotate_left
                · simp only [Act.put, List.setIfInBounds_toArray, List.set_cons_zero, List.set_cons_succ, aT, aU]
                  rfl
                refine bE (i := 9) (N := some 102) (v := ?_) (a' := ?_) #[true, false, false, true, false, false, false, false, false, true, false, false, false, false, false, false, false, false, false, false, false, false] rfl rfl (bg HT_.out (by kernel_rfl)) (fun _ _ _ h => h) (Or.inl ⟨by rfl, ?_⟩) ?_ ?_
                rotate_left
                · intro w'
                  go_simp
                  with_reducible rfl
                rotate_left
                · simp only [Act.put, List.setIfInBounds_toArray, List.set_cons_zero, List.set_cons_succ, aT, aU]
                  rfl
                refine bE (i := 12) (N := some 105) (v := ?_) (a' := ?_) #[true, false, false, true, false, false, false, false, false, true, false, false, true, false, false, false, false, false, false, false, false, false] rfl rfl (bg HT_.out (by kernel_rfl)) (fun _ _ _ h => h) (Or.inl ⟨by rfl, ?_⟩) ?_ ?_
                rotate_left
                · intro w'
                  go_simp
                  with_reducible rfl
                rotate_left
                · simp only [Act.put, List.setIfInBounds_toArray, List.set_cons_zero, List.set_cons_succ, aT, aU]
                  rfl
                refine dI (i := 1) (N := some 94) (v := ?_) (a' := ?_) #[true, true, false, true, false, false, false, false, false, true, false, false, true, false, false, false, false, false, false, false, false, false] rfl rfl (bU HT_.out HW_.out (by kernel_rfl)) (fun _ _ _ h => h) (Or.inl ⟨by rfl, ?_⟩) hHeld ?_ ?_
                rotate_left
                · rintro w' ⟨s0, s1, s2, s3, s4⟩
                  have e0 : w'.cell? ⟨gx,5,none⟩ = some vx := (ah s0 5).trans rfl
                  have e1 : w'.cell? ⟨gy,5,none⟩ = some vy := (ah s1 5).trans rfl
                  have a0 : w'.cell? ⟨gv,0,none⟩ = some (.int .i64 v.f0) := (ah s2 0).trans rfl
                  have a1 : w'.cell? ⟨gv,1,none⟩ = some (.bool v.f1) := (ah s2 1).trans rfl
                  have a2 : w'.cell? ⟨gv,2,none⟩ = some (.int .i64 v.f2) := (ah s2 2).trans rfl
                  have a3 : w'.cell? ⟨gv,3,none⟩ = some (.string v.f3) := (ah s2 3).trans rfl
                  have a4 : w'.cell? ⟨gv,4,none⟩ = some (.slice A4 v.f4.length c4) := (ah s2 4).trans rfl
                  have a5 : w'.cell? ⟨gv,5,none⟩ = some (.slice A5 v.f5.length c5) := (ah s2 5).trans rfl
                  have b0 : w'.cell? ⟨gw,0,none⟩ = some (.int .i64 u.f0) := (ah s3 0).trans rfl
                  have b1 : w'.cell? ⟨gw,1,none⟩ = some (.bool u.f1) := (ah s3 1).trans rfl
                  have b2 : w'.cell? ⟨gw,2,none⟩ = some (.int .i64 u.f2) := (ah s3 2).trans rfl
                  have b3 : w'.cell? ⟨gw,3,none⟩ = some (.string u.f3) := (ah s3 3).trans rfl
                  have b4 : w'.cell? ⟨gw,4,none⟩ = some (.slice B4 u.f4.length d4) := (ah s3 4).trans rfl
                  have b5 : w'.cell? ⟨gw,5,none⟩ = some (.slice B5 u.f5.length d5) := (ah s3 5).trans rfl
                  have q0 : w'.cell? ⟨gp,0,none⟩ = some (.int .i64 p.f0) := (ah s4 0).trans rfl
                  have q1 : w'.cell? ⟨gp,1,none⟩ = some (.int .i64 p.f1) := (ah s4 1).trans rfl
                  have q2 : w'.cell? ⟨gp,2,none⟩ = some (.bool p.f2) := (ah s4 2).trans rfl
                  have q3 : w'.cell? ⟨gp,3,none⟩ = some (.int .i64 p.f3) := (ah s4 3).trans rfl
                  have q4 : w'.cell? ⟨gp,4,none⟩ = some (.string p.f4) := (ah s4 4).trans rfl
                  go_simp
                  with_reducible rfl
                rotate_left
                · simp only [Act.put, List.setIfInBounds_toArray, List.set_cons_zero, List.set_cons_succ, aT, aU]
                  rfl
                refine dI (i := 2) (N := some 95) (v := ?_) (a' := ?_) #[true, true, true, true, false, false, false, false, false, true, false, false, true, false, false, false, false, false, false, false, false, false] rfl rfl (bU HT_.out HW_.out (by kernel_rfl)) (fun _ _ _ h => h) (Or.inl ⟨by rfl, ?_⟩) hHeld ?_ ?_
                rotate_left
                · rintro w' ⟨s0, s1, s2, s3, s4⟩
                  have e0 : w'.cell? ⟨gx,5,none⟩ = some vx := (ah s0 5).trans rfl
                  have e1 : w'.cell? ⟨gy,5,none⟩ = some vy := (ah s1 5).trans rfl
                  have a0 : w'.cell? ⟨gv,0,none⟩ = some (.int .i64 v.f0) := (ah s2 0).trans rfl
                  have a1 : w'.cell? ⟨gv,1,none⟩ = some (.bool v.f1) := (ah s2 1).trans rfl
                  have a2 : w'.cell? ⟨gv,2,none⟩ = some (.int .i64 v.f2) := (ah s2 2).trans rfl
                  have a3 : w'.cell? ⟨gv,3,none⟩ = some (.string v.f3) := (ah s2 3).trans rfl
                  have a4 : w'.cell? ⟨gv,4,none⟩ = some (.slice A4 v.f4.length c4) := (ah s2 4).trans rfl
                  have a5 : w'.cell? ⟨gv,5,none⟩ = some (.slice A5 v.f5.length c5) := (ah s2 5).trans rfl
                  have b0 : w'.cell? ⟨gw,0,none⟩ = some (.int .i64 u.f0) := (ah s3 0).trans rfl
                  have b1 : w'.cell? ⟨gw,1,none⟩ = some (.bool u.f1) := (ah s3 1).trans rfl
                  have b2 : w'.cell? ⟨gw,2,none⟩ = some (.int .i64 u.f2) := (ah s3 2).trans rfl
                  have b3 : w'.cell? ⟨gw,3,none⟩ = some (.string u.f3) := (ah s3 3).trans rfl
                  have b4 : w'.cell? ⟨gw,4,none⟩ = some (.slice B4 u.f4.length d4) := (ah s3 4).trans rfl
                  have b5 : w'.cell? ⟨gw,5,none⟩ = some (.slice B5 u.f5.length d5) := (ah s3 5).trans rfl
                  have q0 : w'.cell? ⟨gp,0,none⟩ = some (.int .i64 p.f0) := (ah s4 0).trans rfl
                  have q1 : w'.cell? ⟨gp,1,none⟩ = some (.int .i64 p.f1) := (ah s4 1).trans rfl
                  have q2 : w'.cell? ⟨gp,2,none⟩ = some (.bool p.f2) := (ah s4 2).trans rfl
                  have q3 : w'.cell? ⟨gp,3,none⟩ = some (.int .i64 p.f3) := (ah s4 3).trans rfl
                  have q4 : w'.cell? ⟨gp,4,none⟩ = some (.string p.f4) := (ah s4 4).trans rfl
                  go_simp
                  with_reducible rfl
                rotate_left
                · simp only [Act.put, List.setIfInBounds_toArray, List.set_cons_zero, List.set_cons_succ, aT, aU]
                  rfl
                refine dI (i := 5) (N := some 98) (v := ?_) (a' := ?_) #[true, true, true, true, false, true, false, false, false, true, false, false, true, false, false, false, false, false, false, false, false, false] rfl rfl (bU HT_.out HW_.out (by kernel_rfl)) (fun _ _ _ h => h) (Or.inl ⟨by rfl, ?_⟩) hHeld ?_ ?_
                rotate_left
                · rintro w' ⟨s0, s1, s2, s3, s4⟩
                  have e0 : w'.cell? ⟨gx,5,none⟩ = some vx := (ah s0 5).trans rfl
                  have e1 : w'.cell? ⟨gy,5,none⟩ = some vy := (ah s1 5).trans rfl
                  have a0 : w'.cell? ⟨gv,0,none⟩ = some (.int .i64 v.f0) := (ah s2 0).trans rfl
                  have a1 : w'.cell? ⟨gv,1,none⟩ = some (.bool v.f1) := (ah s2 1).trans rfl
                  have a2 : w'.cell? ⟨gv,2,none⟩ = some (.int .i64 v.f2) := (ah s2 2).trans rfl
                  have a3 : w'.cell? ⟨gv,3,none⟩ = some (.string v.f3) := (ah s2 3).trans rfl
                  have a4 : w'.cell? ⟨gv,4,none⟩ = some (.slice A4 v.f4.length c4) := (ah s2 4).trans rfl
                  have a5 : w'.cell? ⟨gv,5,none⟩ = some (.slice A5 v.f5.length c5) := (ah s2 5).trans rfl
                  have b0 : w'.cell? ⟨gw,0,none⟩ = some (.int .i64 u.f0) := (ah s3 0).trans rfl
                  have b1 : w'.cell? ⟨gw,1,none⟩ = some (.bool u.f1) := (ah s3 1).trans rfl
                  have b2 : w'.cell? ⟨gw,2,none⟩ = some (.int .i64 u.f2) := (ah s3 2).trans rfl
                  have b3 : w'.cell? ⟨gw,3,none⟩ = some (.string u.f3) := (ah s3 3).trans rfl
                  have b4 : w'.cell? ⟨gw,4,none⟩ = some (.slice B4 u.f4.length d4) := (ah s3 4).trans rfl
                  have b5 : w'.cell? ⟨gw,5,none⟩ = some (.slice B5 u.f5.length d5) := (ah s3 5).trans rfl
                  have q0 : w'.cell? ⟨gp,0,none⟩ = some (.int .i64 p.f0) := (ah s4 0).trans rfl
                  have q1 : w'.cell? ⟨gp,1,none⟩ = some (.int .i64 p.f1) := (ah s4 1).trans rfl
                  have q2 : w'.cell? ⟨gp,2,none⟩ = some (.bool p.f2) := (ah s4 2).trans rfl
                  have q3 : w'.cell? ⟨gp,3,none⟩ = some (.int .i64 p.f3) := (ah s4 3).trans rfl
                  have q4 : w'.cell? ⟨gp,4,none⟩ = some (.string p.f4) := (ah s4 4).trans rfl
                  go_simp
                  with_reducible rfl
                rotate_left
                · simp only [Act.put, List.setIfInBounds_toArray, List.set_cons_zero, List.set_cons_succ, aT, aU]
                  rfl
                refine dI (i := 10) (N := some 103) (v := ?_) (a' := ?_) #[true, true, true, true, false, true, false, false, false, true, true, false, true, false, false, false, false, false, false, false, false, false] rfl rfl (bU HT_.out HW_.out (by kernel_rfl)) (fun _ _ _ h => h) (Or.inl ⟨by rfl, ?_⟩) hHeld ?_ ?_
                rotate_left
                · rintro w' ⟨s0, s1, s2, s3, s4⟩
                  have e0 : w'.cell? ⟨gx,5,none⟩ = some vx := (ah s0 5).trans rfl
                  have e1 : w'.cell? ⟨gy,5,none⟩ = some vy := (ah s1 5).trans rfl
                  have a0 : w'.cell? ⟨gv,0,none⟩ = some (.int .i64 v.f0) := (ah s2 0).trans rfl
                  have a1 : w'.cell? ⟨gv,1,none⟩ = some (.bool v.f1) := (ah s2 1).trans rfl
                  have a2 : w'.cell? ⟨gv,2,none⟩ = some (.int .i64 v.f2) := (ah s2 2).trans rfl
                  have a3 : w'.cell? ⟨gv,3,none⟩ = some (.string v.f3) := (ah s2 3).trans rfl
                  have a4 : w'.cell? ⟨gv,4,none⟩ = some (.slice A4 v.f4.length c4) := (ah s2 4).trans rfl
                  have a5 : w'.cell? ⟨gv,5,none⟩ = some (.slice A5 v.f5.length c5) := (ah s2 5).trans rfl
                  have b0 : w'.cell? ⟨gw,0,none⟩ = some (.int .i64 u.f0) := (ah s3 0).trans rfl
                  have b1 : w'.cell? ⟨gw,1,none⟩ = some (.bool u.f1) := (ah s3 1).trans rfl
                  have b2 : w'.cell? ⟨gw,2,none⟩ = some (.int .i64 u.f2) := (ah s3 2).trans rfl
                  have b3 : w'.cell? ⟨gw,3,none⟩ = some (.string u.f3) := (ah s3 3).trans rfl
                  have b4 : w'.cell? ⟨gw,4,none⟩ = some (.slice B4 u.f4.length d4) := (ah s3 4).trans rfl
                  have b5 : w'.cell? ⟨gw,5,none⟩ = some (.slice B5 u.f5.length d5) := (ah s3 5).trans rfl
                  have q0 : w'.cell? ⟨gp,0,none⟩ = some (.int .i64 p.f0) := (ah s4 0).trans rfl
                  have q1 : w'.cell? ⟨gp,1,none⟩ = some (.int .i64 p.f1) := (ah s4 1).trans rfl
                  have q2 : w'.cell? ⟨gp,2,none⟩ = some (.bool p.f2) := (ah s4 2).trans rfl
                  have q3 : w'.cell? ⟨gp,3,none⟩ = some (.int .i64 p.f3) := (ah s4 3).trans rfl
                  have q4 : w'.cell? ⟨gp,4,none⟩ = some (.string p.f4) := (ah s4 4).trans rfl
                  go_simp
                  with_reducible rfl
                rotate_left
                · simp only [Act.put, List.setIfInBounds_toArray, List.set_cons_zero, List.set_cons_succ, aT, aU]
                  rfl
                refine dI (i := 11) (N := some 104) (v := ?_) (a' := ?_) #[true, true, true, true, false, true, false, false, false, true, true, true, true, false, false, false, false, false, false, false, false, false] rfl rfl (bU HT_.out HW_.out (by kernel_rfl)) (fun _ _ _ h => h) (Or.inl ⟨by rfl, ?_⟩) hHeld ?_ ?_
                rotate_left
                · rintro w' ⟨s0, s1, s2, s3, s4⟩
                  have e0 : w'.cell? ⟨gx,5,none⟩ = some vx := (ah s0 5).trans rfl
                  have e1 : w'.cell? ⟨gy,5,none⟩ = some vy := (ah s1 5).trans rfl
                  have a0 : w'.cell? ⟨gv,0,none⟩ = some (.int .i64 v.f0) := (ah s2 0).trans rfl
                  have a1 : w'.cell? ⟨gv,1,none⟩ = some (.bool v.f1) := (ah s2 1).trans rfl
                  have a2 : w'.cell? ⟨gv,2,none⟩ = some (.int .i64 v.f2) := (ah s2 2).trans rfl
                  have a3 : w'.cell? ⟨gv,3,none⟩ = some (.string v.f3) := (ah s2 3).trans rfl
                  have a4 : w'.cell? ⟨gv,4,none⟩ = some (.slice A4 v.f4.length c4) := (ah s2 4).trans rfl
                  have a5 : w'.cell? ⟨gv,5,none⟩ = some (.slice A5 v.f5.length c5) := (ah s2 5).trans rfl
                  have b0 : w'.cell? ⟨gw,0,none⟩ = some (.int .i64 u.f0) := (ah s3 0).trans rfl
                  have b1 : w'.cell? ⟨gw,1,none⟩ = some (.bool u.f1) := (ah s3 1).trans rfl
                  have b2 : w'.cell? ⟨gw,2,none⟩ = some (.int .i64 u.f2) := (ah s3 2).trans rfl
                  have b3 : w'.cell? ⟨gw,3,none⟩ = some (.string u.f3) := (ah s3 3).trans rfl
                  have b4 : w'.cell? ⟨gw,4,none⟩ = some (.slice B4 u.f4.length d4) := (ah s3 4).trans rfl
                  have b5 : w'.cell? ⟨gw,5,none⟩ = some (.slice B5 u.f5.length d5) := (ah s3 5).trans rfl
                  have q0 : w'.cell? ⟨gp,0,none⟩ = some (.int .i64 p.f0) := (ah s4 0).trans rfl
                  have q1 : w'.cell? ⟨gp,1,none⟩ = some (.int .i64 p.f1) := (ah s4 1).trans rfl
                  have q2 : w'.cell? ⟨gp,2,none⟩ = some (.bool p.f2) := (ah s4 2).trans rfl
                  have q3 : w'.cell? ⟨gp,3,none⟩ = some (.int .i64 p.f3) := (ah s4 3).trans rfl
                  have q4 : w'.cell? ⟨gp,4,none⟩ = some (.string p.f4) := (ah s4 4).trans rfl
                  go_simp
                  with_reducible rfl
                rotate_left
                · simp only [Act.put, List.setIfInBounds_toArray, List.set_cons_zero, List.set_cons_succ, aT, aU]
                  rfl
                refine dI (i := 14) (N := some 107) (v := ?_) (a' := ?_) #[true, true, true, true, false, true, false, false, false, true, true, true, true, false, true, false, false, false, false, false, false, false] rfl rfl (bU HT_.out HW_.out (by kernel_rfl)) (fun _ _ _ h => h) (Or.inl ⟨by rfl, ?_⟩) hHeld ?_ ?_
                rotate_left
                · rintro w' ⟨s0, s1, s2, s3, s4⟩
                  have e0 : w'.cell? ⟨gx,5,none⟩ = some vx := (ah s0 5).trans rfl
                  have e1 : w'.cell? ⟨gy,5,none⟩ = some vy := (ah s1 5).trans rfl
                  have a0 : w'.cell? ⟨gv,0,none⟩ = some (.int .i64 v.f0) := (ah s2 0).trans rfl
                  have a1 : w'.cell? ⟨gv,1,none⟩ = some (.bool v.f1) := (ah s2 1).trans rfl
                  have a2 : w'.cell? ⟨gv,2,none⟩ = some (.int .i64 v.f2) := (ah s2 2).trans rfl
                  have a3 : w'.cell? ⟨gv,3,none⟩ = some (.string v.f3) := (ah s2 3).trans rfl
                  have a4 : w'.cell? ⟨gv,4,none⟩ = some (.slice A4 v.f4.length c4) := (ah s2 4).trans rfl
                  have a5 : w'.cell? ⟨gv,5,none⟩ = some (.slice A5 v.f5.length c5) := (ah s2 5).trans rfl
                  have b0 : w'.cell? ⟨gw,0,none⟩ = some (.int .i64 u.f0) := (ah s3 0).trans rfl
                  have b1 : w'.cell? ⟨gw,1,none⟩ = some (.bool u.f1) := (ah s3 1).trans rfl
                  have b2 : w'.cell? ⟨gw,2,none⟩ = some (.int .i64 u.f2) := (ah s3 2).trans rfl
                  have b3 : w'.cell? ⟨gw,3,none⟩ = some (.string u.f3) := (ah s3 3).trans rfl
                  have b4 : w'.cell? ⟨gw,4,none⟩ = some (.slice B4 u.f4.length d4) := (ah s3 4).trans rfl
                  have b5 : w'.cell? ⟨gw,5,none⟩ = some (.slice B5 u.f5.length d5) := (ah s3 5).trans rfl
                  have q0 : w'.cell? ⟨gp,0,none⟩ = some (.int .i64 p.f0) := (ah s4 0).trans rfl
                  have q1 : w'.cell? ⟨gp,1,none⟩ = some (.int .i64 p.f1) := (ah s4 1).trans rfl
                  have q2 : w'.cell? ⟨gp,2,none⟩ = some (.bool p.f2) := (ah s4 2).trans rfl
                  have q3 : w'.cell? ⟨gp,3,none⟩ = some (.int .i64 p.f3) := (ah s4 3).trans rfl
                  have q4 : w'.cell? ⟨gp,4,none⟩ = some (.string p.f4) := (ah s4 4).trans rfl
                  go_simp
                  with_reducible rfl
                rotate_left
                · simp only [Act.put, List.setIfInBounds_toArray, List.set_cons_zero, List.set_cons_succ, aT, aU]
                  rfl
                refine fM (i := 4) (N := some 97) #[true, true, true, true, true, true, false, false, false, true, true, true, true, false, true, false, false, false, false, false, false, false] rfl rfl (dx HT_.out (by kernel_rfl)) (by decide) (fun K hK => ?_)
                refine gq Tryd.func31 (by kernel_rfl) rfl #[.agg #[.int .i64 p.f0, .int .i64 p.f1, .bool p.f2, .int .i64 p.f3, .string p.f4], .int .i64 (j : Int)] (by rfl) rfl rfl (by (try simp only [List.map_toArray, List.map_cons, List.map_nil]); first | done | rfl) ?_
                refine (eF.calls p.f0 p.f1 p.f2 p.f3 p.f4 (j : Int) s _ HS.out).mono ?_
                rintro e wa ⟨rfl, hb2⟩
                refine ⟨_, rfl, ?_⟩
                replace HI := Aside0.mk (HI.out.below hb2)
                replace HT2 := Aside0.mk (HT2.out.below hb2)
                clear hb2
                refine hK.out _ _ ⟨HI.out.hx, HI.out.hy, HT2.out.v, HT2.out.w, HI.out.hp⟩ (fun hHeld => ?_)
                clear hK K
                refine cB (a' := ?_) ?_ ?_
                rotate_left
                · show Act.put _ (some 97) _ = _
                  simp only [Act.put, List.setIfInBounds_toArray, List.set_cons_zero, List.set_cons_succ, aT, aU]
                  rfl
                refine bE (i := 6) (N := some 99) (v := ?_) (a' := ?_) #[true, true, true, true, true, true, true, false, false, true, true, true, true, false, true, false, false, false, false, false, false, false] rfl rfl (bg HT_.out (by kernel_rfl)) (fun _ _ _ h => h) (Or.inl ⟨by rfl, ?_⟩) ?_ ?_
                rotate_left
                · intro w'
                  go_simp
                  with_reducible rfl
                rotate_left
                · simp only [Act.put, List.setIfInBounds_toArray, List.set_cons_zero, List.set_cons_succ, aT, aU]
                  rfl
                refine fM (i := 7) (N := some 100) #[true, true, true, true, true, true, true, true, false, true, true, true, true, false, true, false, false, false, false, false, false, false] rfl rfl (dx HT_.out (by kernel_rfl)) (by decide) (fun K hK => ?_)
                refine Kd.dA k48 (w0 := w1) w1.heap.size 48 ?hg (N' := 100) ?hd (xs := [(⟨s, v⟩ : S48)]) (inner := [.string s, .int .i64 v.f0, .bool v.f1, .int .i64 v.f2, .string v.f3, .slice A4 v.f4.length c4, .slice A5 v.f5.length c5]) (ok := (fun k => (okG w.heap.size [gv, gw, gp, gx, gy, g2, g3] k ∧ some k ≠ vy.ownBlock) ∧ some k ≠ vx.ownBlock)) (okp := (fun k => okG w.heap.size [g2, g3] k ∧ k < w1.heap.size)) ?hr ?hp (fun k hk => HI.out.old (HOKE.out k hk) hk.2) (HI.out.fresh (Nat.le_refl _)) HI.out.b HI.out.b.size (by simp) ?_
                (case hd => rfl)
                (case hg => rfl)
                (case hr => first | (go_simp; done) | (go_simp; rfl))
                (case hp => exact cu.c7 (show Kd.FK k48 _ _ (⟨s, v⟩ : S48) [.string s, .int .i64 v.f0, .bool v.f1, .int .i64 v.f2, .string v.f3, .slice A4 v.f4.length c4, .slice A5 v.f5.length c5] from qC _ _ (⟨s, v⟩ : S48) HVL.out.1 (gM zm.out HI.out.b) HVL.out.2 (gM zn.out HI.out.b)) (cu.none _ _))
                intro BK wa hn hb_ hg_ hnew_
                have hb2 := dB hg_
                clear hb_ hg_ hnew_
                replace HI := Aside0.mk (HI.out.below hb2)
                replace HT2 := Aside0.mk (HT2.out.below hb2)
                have LX := Aside0.mk hn
                clear hn hb2
                obtain ⟨Ax, cx, ex⟩ := Kd.eu LX.out
                subst ex
                refine hK.out _ _ ⟨HI.out.hx, HI.out.hy, HT2.out.v, HT2.out.w, HI.out.hp⟩ (fun hHeld => ?_)
                clear hK K
                refine cB (a' := ?_) ?_ ?_
                rotate_left
                · show Act.put _ (some 100) _ = _
                  simp only [Act.put, List.setIfInBounds_toArray, List.set_cons_zero, List.set_cons_succ, aT, aU]
                  rfl
                refine fM (i := 8) (N := some 101) #[true, true, true, true, true, true, true, true, true, true, true, true, true, false, true, false, false, false, false, false, false, false] rfl rfl (dx HT_.out (by kernel_rfl)) (by decide) (fun K hK => ?_)
                refine Kd.eZ k48 (w0 := w1) w1.heap.size (by rfl) (.tmp 94) (.tmp 100) 27 48 (.agg #[(.string ⟨#[]⟩), (.int .i64 0), (.bool false), (.int .i64 0), (.string ⟨#[]⟩), (.slice none 0 0), (.slice none 0 0)]) 104 rfl Tryd.underlying27 wO rfl (by decide) (by omega) vx (X.f5.take j) [(⟨s, v⟩ : S48)] Ax [(⟨s, v⟩ : S48)].length cx (fun k => okG w.heap.size [gv, gw, gp, gx, gy, g2, g3] k ∧ some k ≠ vy.ownBlock) (fun k => (okG w.heap.size [gv, gw, gp, gx, gy, g2, g3] k ∧ some k ≠ vy.ownBlock) ∧ some k ≠ vx.ownBlock) rfl rfl HI.out.nx (Kd.N_F LX.out) (fun _ hk => hk) (fun k hk => (HI.out.fresh hk).1) HI.out.b HI.out.b.size (by have := HXL.out; rw [List.length_take, List.length_singleton]; omega) ?_
                intro yS wa hn hb hg hat
                replace HT2 := Aside0.mk (HT2.out.grown hg (HI.out.away (by simp)).1 (HI.out.away (by simp)).1)
                replace HI := Aside0.mk (HI.out.qF hn hb hg hat)
                clear hn hb hg hat LX
                refine hK.out _ _ ⟨HI.out.hx, HI.out.hy, HT2.out.v, HT2.out.w, HI.out.hp⟩ (fun hHeld => ?_)
                clear hK K
                refine cB (a' := ?_) ?_ ?_
                rotate_left
                · show Act.put _ (some 101) _ = _
                  simp only [Act.put, List.setIfInBounds_toArray, List.set_cons_zero, List.set_cons_succ, aT, aU]
                  rfl
                refine bE (i := 18) (N := some 111) (v := ?_) (a' := ?_) #[true, true, true, true, true, true, true, true, true, true, true, true, true, false, true, false, false, false, true, false, false, false] rfl rfl (bg HT_.out (by kernel_rfl)) (fun _ _ _ h => h) (Or.inl ⟨by rfl, ?_⟩) ?_ ?_
                rotate_left
                · intro w'
                  go_simp
                  with_reducible rfl
                rotate_left
                · simp only [Act.put, List.setIfInBounds_toArray, List.set_cons_zero, List.set_cons_succ, aT, aU]
                  rfl
                refine fM (i := 13) (N := some 106) #[true, true, true, true, true, true, true, true, true, true, true, true, true, true, true, false, false, false, true, false, false, false] rfl rfl (dx HT_.out (by kernel_rfl)) (by decide) (fun K hK => ?_)
                refine gq Tryd.func31 (by kernel_rfl) rfl #[.agg #[.int .i64 p.f0, .int .i64 p.f1, .bool p.f2, .int .i64 p.f3, .string p.f4], .int .i64 (j : Int)] (by rfl) rfl rfl (by (try simp only [List.map_toArray, List.map_cons, List.map_nil]); first | done | rfl) ?_
                refine (eF.calls p.f0 p.f1 p.f2 p.f3 p.f4 (j : Int) s _ HS.out).mono ?_
                rintro e wa ⟨rfl, hb2⟩
                refine ⟨_, rfl, ?_⟩
                replace HI := Aside0.mk (HI.out.below hb2)
                replace HT2 := Aside0.mk (HT2.out.below hb2)
                clear hb2
                refine hK.out _ _ ⟨HI.out.hx, HI.out.hy, HT2.out.v, HT2.out.w, HI.out.hp⟩ (fun hHeld => ?_)
                clear hK K
                refine cB (a' := ?_) ?_ ?_
                rotate_left
                · show Act.put _ (some 106) _ = _
                  simp only [Act.put, List.setIfInBounds_toArray, List.set_cons_zero, List.set_cons_succ, aT, aU]
                  rfl
                refine bE (i := 15) (N := some 108) (v := ?_) (a' := ?_) #[true, true, true, true, true, true, true, true, true, true, true, true, true, true, true, true, false, false, true, false, false, false] rfl rfl (bg HT_.out (by kernel_rfl)) (fun _ _ _ h => h) (Or.inl ⟨by rfl, ?_⟩) ?_ ?_
                rotate_left
                · intro w'
                  go_simp
                  with_reducible rfl
                rotate_left
                · simp only [Act.put, List.setIfInBounds_toArray, List.set_cons_zero, List.set_cons_succ, aT, aU]
                  rfl
                refine fM (i := 16) (N := some 109) #[true, true, true, true, true, true, true, true, true, true, true, true, true, true, true, true, true, false, true, false, false, false] rfl rfl (dx HT_.out (by kernel_rfl)) (by decide) (fun K hK => ?_)
                refine Kd.dA k50 (w0 := w1) w1.heap.size 50 ?hg (N' := 109) ?hd (xs := [(⟨s, u⟩ : S50)]) (inner := [.string s, .int .i64 u.f0, .bool u.f1, .int .i64 u.f2, .string u.f3, .slice B4 u.f4.length d4, .slice B5 u.f5.length d5]) (ok := (fun k => (okG w.heap.size [gv, gw, gp, gx, gy, g2, g3] k ∧ some k ≠ yS.ownBlock) ∧ some k ≠ vy.ownBlock)) (okp := (fun k => okG w.heap.size [g2, g3] k ∧ k < w1.heap.size)) ?hr ?hp (fun k hk => HI.out.uI (HOKE.out k hk) hk.2) (HI.out.lH (Nat.le_refl _)) HI.out.b HI.out.b.size (by simp) ?_
                (case hd => rfl)
                (case hg => rfl)
                (case hr => first | (go_simp; done) | (go_simp; rfl))
                (case hp => exact cu.c7 (show Kd.FK k50 _ _ (⟨s, u⟩ : S50) [.string s, .int .i64 u.f0, .bool u.f1, .int .i64 u.f2, .string u.f3, .slice B4 u.f4.length d4, .slice B5 u.f5.length d5] from qE _ _ (⟨s, u⟩ : S50) HUL.out.1 (gM yU.out HI.out.b) HUL.out.2 (gM yV.out HI.out.b)) (cu.none _ _))
                intro v109 wa hn hb_ hg_ hnew_
                have hb2 := dB hg_
                clear hb_ hg_ hnew_
                replace HI := Aside0.mk (HI.out.below hb2)
                replace HT2 := Aside0.mk (HT2.out.below hb2)
                have LY := Aside0.mk hn
                clear hn hb2
                obtain ⟨Ay, cy, ey⟩ := Kd.eu LY.out
                subst ey
                refine hK.out _ _ ⟨HI.out.hx, HI.out.hy, HT2.out.v, HT2.out.w, HI.out.hp⟩ (fun hHeld => ?_)
                clear hK K
                refine cB (a' := ?_) ?_ ?_
                rotate_left
                · show Act.put _ (some 109) _ = _
                  simp only [Act.put, List.setIfInBounds_toArray, List.set_cons_zero, List.set_cons_succ, aT, aU]
                  rfl
                refine fM (i := 17) (N := some 110) #[true, true, true, true, true, true, true, true, true, true, true, true, true, true, true, true, true, true, true, false, false, false] rfl rfl (dx HT_.out (by kernel_rfl)) (by decide) (fun K hK => ?_)
                refine Kd.eZ k50 (w0 := w1) w1.heap.size (by rfl) (.tmp 103) (.tmp 109) 31 50 (.agg #[(.string ⟨#[]⟩), (.int .i64 0), (.bool false), (.int .i64 0), (.string ⟨#[]⟩), (.slice none 0 0), (.slice none 0 0)]) 104 rfl Tryd.underlying31 wP rfl (by decide) (by omega) vy (dz (X.f5.take j)) [(⟨s, u⟩ : S50)] Ay [(⟨s, u⟩ : S50)].length cy (fun k => okG w.heap.size [gv, gw, gp, gx, gy, g2, g3] k ∧ some k ≠ yS.ownBlock) (fun k => (okG w.heap.size [gv, gw, gp, gx, gy, g2, g3] k ∧ some k ≠ yS.ownBlock) ∧ some k ≠ vy.ownBlock) rfl rfl HI.out.ny (Kd.N_F LY.out) (fun _ hk => hk) (fun k hk => (HI.out.lH hk).1) HI.out.b HI.out.b.size (by have := HXL.out; rw [iK, List.length_take, List.length_singleton]; omega) ?_
                intro BL wb hn hb hg hat
                replace HT2 := Aside0.mk (HT2.out.grown hg (HI.out.away (by simp)).2 (HI.out.away (by simp)).2)
                replace HI := Aside0.mk (HI.out.uV hn hb hg hat)
                clear hn hb hg hat LY
                refine hK.out _ _ ⟨HI.out.hx, HI.out.hy, HT2.out.v, HT2.out.w, HI.out.hp⟩ (fun hHeld => ?_)
                clear hK K
                refine cB (a' := ?_) ?_ ?_
                rotate_left
                · show Act.put _ (some 110) _ = _
                  simp only [Act.put, List.setIfInBounds_toArray, List.set_cons_zero, List.set_cons_succ, aT, aU]
                  rfl
                refine lS (i := 19) (N := none) #[true, true, true, true, true, true, true, true, true, true, true, true, true, true, true, true, true, true, true, true, false, false] rfl rfl (dx HT_.out (by kernel_rfl)) (by decide) (fun K hK => ?_)
                obtain ⟨XN, hXN⟩ : ∃ l, l = X.f5.take j ++ [(⟨s, v⟩ : S48)] := ⟨_, rfl⟩
                obtain ⟨YN, hYN⟩ : ∃ l, l = dz (X.f5.take j) ++ [(⟨s, u⟩ : S50)] := ⟨_, rfl⟩
                rw [← hXN, ← hYN] at HI
                have HXY := Aside0.mk (⟨hXN, hYN⟩ : _ ∧ _)
                clear hXN hYN
                obtain ⟨Az, cz, ez⟩ := Kd.eu HI.out.nx
                subst ez
                have z4 : wb.cell? ⟨gx,5,none⟩ = some vx := (ah HI.out.hx 5).trans rfl
                have f4 := aj HI.out.hx 5
                refine ku (w1 := ?_) (by rfl) rfl ?_ ?_
                rotate_left
                · go_simp
                  rfl
                clear z4 f4
                replace HI := Aside0.mk (HI.out.wL (cx' := cK p (Value.slice Az XN.length cz)) 5 (Value.slice Az XN.length cz) rfl)
                generalize wb.setCell ⟨gx, 5, none⟩ (Value.slice Az XN.length cz) = wd at HI ⊢
                refine hK.out _ _ ?_
                clear hK K
                refine bE (i := 20) (N := some 112) (v := ?_) (a' := ?_) #[true, true, true, true, true, true, true, true, true, true, true, true, true, true, true, true, true, true, true, true, true, false] rfl rfl (bg HT_.out (by kernel_rfl)) (fun _ _ _ h => h) (Or.inl ⟨by rfl, ?_⟩) ?_ ?_
                rotate_left
                · intro w'
                  go_simp
                  with_reducible rfl
                rotate_left
                · simp only [Act.put, List.setIfInBounds_toArray, List.set_cons_zero, List.set_cons_succ, aT, aU]
                  rfl
                refine lS (i := 21) (N := none) #[true, true, true, true, true, true, true, true, true, true, true, true, true, true, true, true, true, true, true, true, true, true] rfl rfl (dx HT_.out (by kernel_rfl)) (by decide) (fun K hK => ?_)
                obtain ⟨Aw, cw, ew⟩ := Kd.eu HI.out.ny
                subst ew
                have z4 : wd.cell? ⟨gy,5,none⟩ = some vy := (ah HI.out.hy 5).trans rfl
                have f4 := aj HI.out.hy 5
                refine ku (w1 := ?_) (by rfl) rfl ?_ ?_
                rotate_left
                · go_simp
                  rfl
                clear z4 f4
                replace HI := Aside0.mk (HI.out.wM (cy' := cK p (Value.slice Aw YN.length cw)) 5 (Value.slice Aw YN.length cw) rfl)
                generalize wd.setCell ⟨gy, 5, none⟩ (Value.slice Aw YN.length cw) = we at HI ⊢
                refine hK.out _ _ ?_
                clear hK K
                refine jh (gL HT_.out (by kernel_rfl)) ?_
                have AU : wrap64 ((j : Int) + 1) = ((j + 1 : Nat) : Int) := iQ (by push_cast; rfl) (by have := HJK.out; have := HKL.out; have := HI0.out.2.2.1; have := HI0.out.2.1; have := HL.out; omega)
                try go_wp2
                go_roundg (K - (j + 1))
                case measure => have := HJ.out.1; have := HJK.out; omega
                case rel => exact ⟨j + 1, (by first | rfl | (simp; done) | (simp [*]; done)), ⟨rfl, HJK.out⟩, ⟨.inr ⟨H4.out, _, _, by rw [HST.out.2, HST.out.1, ← HXY.out.1, ← HXY.out.2]; exact HI.out.less (by simp) (by simp) (by simp) (by simp)⟩⟩⟩
            · have c57b0 : decide ((j : Int) < (K : Int)) = false := decide_eq_false zH
              have c57b1 : decide (j < K) = false := decide_eq_false (by omega)
              have c57b2 : (j < K) = False := eq_false (by omega)
              obtain ⟨v4, v5, u4, u5, hM⟩ := HD.out.made (g2 := g2) (g3 := g3) HX.out (by rw [List.length_drop]; have := HKL.out; omega) (by simp) (by simp)
              have HM := Aside0.mk hM
              clear hM HD zH
              obtain ⟨wc, hwc⟩ : ∃ q, q = wr := ⟨_, rfl⟩
              subst hwc
              obtain ⟨A4, c4, e4⟩ := Kd.dJ HM.out.x4
              obtain ⟨A5, c5, e5⟩ := Kd.dJ HM.out.x5
              obtain ⟨B4, d4, e6⟩ := Kd.dJ HM.out.y4
              obtain ⟨B5, d5, e7⟩ := Kd.dJ HM.out.y5
              subst e4
              subst e5
              subst e6
              subst e7
              have HOw := Aside0.mk (HO.out.below HM.out.b)
              have hla : la.length ≤ 1000000 := Nat.le_trans HI.out.2.2.1 (Nat.le_trans HI.out.2.1 HL.out)
              have hKL := HKL.out
              obtain ⟨T, hT⟩ : ∃ T, la.take (la.length - K) = T := ⟨_, rfl⟩
              have hTl : T.length = la.length - K := by rw [← hT, List.length_take]; omega
              have HTF := Aside0.mk (show Kd.F k29 wc (okG w.heap.size [g2, g3]) Aa T.length T from hT ▸ uW HOw.out.a (Nat.sub_le _ _))
              have HTR := Aside0.mk (show Kd.F k33 wc (okG w.heap.size [g2, g3]) Ab (cZ T).length (cZ T) from by
                have z := uW (m := la.length - K) (by have z := HOw.out.c; rw [← dW] at z; exact z) (by rw [dW]; exact Nat.sub_le _ _)
                rw [rC, hT] at z
                exact z)
              have HTn := Aside0.mk (show T.length ≤ 1000000 by omega)
              have hwT : wrap64 ((la.length : Int) - (K : Int)) = (T.length : Int) := iQ (by omega) (by omega)
              obtain ⟨i29, zu, _, zw, _⟩ := info_parts jD
              obtain ⟨i33, zx, _, zy, _⟩ := info_parts oC
              have hcutA := pz (P := Tryd.prog) 26 29 Tryd.underlying26 zu Aa la.length ca T.length (by omega) (Kd.jM HOw.out.a).2.1
              have hcutB : ∀ W : World, (Instr.slice 30 (.slice Ab la.length cb) none (some (.int .i64 (T.length : Int))) (some (.int .i64 (T.length : Int)))).run Tryd.prog W = .ok (.slice Ab (cZ T).length (cZ T).length) W := by
                rw [dW]
                exact pz (P := Tryd.prog) 30 33 Tryd.underlying30 zx Ab la.length cb T.length (by omega) (by have z := HOw.out.c; rw [← dW] at z; have z2 := (Kd.jM z).2.1; rw [dW] at z2; exact z2)
              obtain ⟨xR, hxR⟩ : ∃ xR : S33, (⟨X.f0, X.f1, X.f2, X.f3, cZ X.f4, dz X.f5⟩ : S33) = xR := ⟨_, rfl⟩
              have HXR := Aside0.mk hxR
              have HTE := Aside0.mk hT
              clear hxR hT hTl hKL hla zu zx zw zy
              try go_wp2
              refine iE (n := 28) (S := fun w' => Below wc.heap.size wc w') (ds := []) #[false, false, false, false, false, false, false, false, false, false, false, false, false, false, false, false, false, false, false, false, false, false, false, false, false, false, false, false] (by kernel_rfl) rfl rfl (dQ (Below.refl _ _)) (fun hHeld => ?_)
              refine fB aZ.wY aZ.vV (fun HT_ HW_ => ?_)
              have HB := Aside0.mk hHeld
              refine bE (i := 0) (N := some 114) (v := ?_) (a' := ?_) #[true, false, false, false, false, false, false, false, false, false, false, false, false, false, false, false, false, false, false, false, false, false, false, false, false, false, false, false] rfl rfl (bg HT_.out (by kernel_rfl)) (fun _ _ _ h => h) (Or.inl ⟨by rfl, ?_⟩) ?_ ?_
              rotate_left
              · intro w'
                go_simp
                with_reducible rfl
              rotate_left
              · simp only [Act.put, List.setIfInBounds_toArray, List.set_cons_zero, List.set_cons_succ, aT, aU]
                rfl
              refine bE (i := 1) (N := some 115) (v := ?_) (a' := ?_) #[true, true, false, false, false, false, false, false, false, false, false, false, false, false, false, false, false, false, false, false, false, false, false, false, false, false, false, false] rfl rfl (bg HT_.out (by kernel_rfl)) (fun _ _ _ h => h) (Or.inl ⟨by rfl, ?_⟩) ?_ ?_
              rotate_left
              · intro w'
                go_simp
                with_reducible rfl
              rotate_left
              · simp only [Act.put, List.setIfInBounds_toArray, List.set_cons_zero, List.set_cons_succ, aT, aU]
                rfl
              refine bE (i := 2) (N := some 116) (v := ?_) (a' := ?_) #[true, true, true, false, false, false, false, false, false, false, false, false, false, false, false, false, false, false, false, false, false, false, false, false, false, false, false, false] rfl rfl (bg HT_.out (by kernel_rfl)) (fun _ _ _ h => h) (Or.inl ⟨by rfl, ?_⟩) ?_ ?_
              rotate_left
              · intro w'
                go_simp
                with_reducible rfl
              rotate_left
              · simp only [Act.put, List.setIfInBounds_toArray, List.set_cons_zero, List.set_cons_succ, aT, aU]
                rfl
              refine bE (i := 3) (N := some 117) (v := ?_) (a' := ?_) #[true, true, true, true, false, false, false, false, false, false, false, false, false, false, false, false, false, false, false, false, false, false, false, false, false, false, false, false] rfl rfl (bg HT_.out (by kernel_rfl)) (fun _ _ _ h => h) (Or.inl ⟨by rfl, ?_⟩) ?_ ?_
              rotate_left
              · intro w'
                go_simp
                with_reducible rfl
              rotate_left
              · simp only [Act.put, List.setIfInBounds_toArray, List.set_cons_zero, List.set_cons_succ, aT, aU]
                rfl
              refine bE (i := 4) (N := some 118) (v := ?_) (a' := ?_) #[true, true, true, true, true, false, false, false, false, false, false, false, false, false, false, false, false, false, false, false, false, false, false, false, false, false, false, false] rfl rfl (bg HT_.out (by kernel_rfl)) (fun _ _ _ h => h) (Or.inl ⟨by rfl, ?_⟩) ?_ ?_
              rotate_left
              · intro w'
                go_simp
                with_reducible rfl
              rotate_left
              · simp only [Act.put, List.setIfInBounds_toArray, List.set_cons_zero, List.set_cons_succ, aT, aU]
                rfl
              refine bE (i := 5) (N := some 119) (v := ?_) (a' := ?_) #[true, true, true, true, true, true, false, false, false, false, false, false, false, false, false, false, false, false, false, false, false, false, false, false, false, false, false, false] rfl rfl (bg HT_.out (by kernel_rfl)) (fun _ _ _ h => h) (Or.inl ⟨by rfl, ?_⟩) ?_ ?_
              rotate_left
              · intro w'
                go_simp
                with_reducible rfl
              rotate_left
              · simp only [Act.put, List.setIfInBounds_toArray, List.set_cons_zero, List.set_cons_succ, aT, aU]
                rfl
              refine bE (i := 6) (N := some 120) (v := ?_) (a' := ?_) #[true, true, true, true, true, true, true, false, false, false, false, false, false, false, false, false, false, false, false, false, false, false, false, false, false, false, false, false] rfl rfl (bg HT_.out (by kernel_rfl)) (fun _ _ _ h => h) (Or.inl ⟨by rfl, ?_⟩) ?_ ?_
              rotate_left
              · intro w'
                go_simp
                with_reducible rfl
              rotate_left
              · simp only [Act.put, List.setIfInBounds_toArray, List.set_cons_zero, List.set_cons_succ, aT, aU]
                rfl
              refine bE (i := 7) (N := some 121) (v := ?_) (a' := ?_) #[true, true, true, true, true, true, true, true, false, false, false, false, false, false, false, false, false, false, false, false, false, false, false, false, false, false, false, false] rfl rfl (bg HT_.out (by kernel_rfl)) (fun _ _ _ h => h) (Or.inl ⟨by rfl, ?_⟩) ?_ ?_
              rotate_left
              · intro w'
                go_simp
                with_reducible rfl
              rotate_left
              · simp only [Act.put, List.setIfInBounds_toArray, List.set_cons_zero, List.set_cons_succ, aT, aU]
                rfl
              refine bE (i := 8) (N := some 122) (v := ?_) (a' := ?_) #[true, true, true, true, true, true, true, true, true, false, false, false, false, false, false, false, false, false, false, false, false, false, false, false, false, false, false, false] rfl rfl (bg HT_.out (by kernel_rfl)) (fun _ _ _ h => h) (Or.inl ⟨by rfl, ?_⟩) ?_ ?_
              rotate_left
              · intro w'
                go_simp
                with_reducible rfl
              rotate_left
              · simp only [Act.put, List.setIfInBounds_toArray, List.set_cons_zero, List.set_cons_succ, aT, aU]
                rfl
              refine bE (i := 9) (N := some 123) (v := ?_) (a' := ?_) #[true, true, true, true, true, true, true, true, true, true, false, false, false, false, false, false, false, false, false, false, false, false, false, false, false, false, false, false] rfl rfl (bg HT_.out (by kernel_rfl)) (fun _ _ _ h => h) (Or.inl ⟨by rfl, ?_⟩) ?_ ?_
              rotate_left
              · intro w'
                go_simp
                with_reducible rfl
              rotate_left
              · simp only [Act.put, List.setIfInBounds_toArray, List.set_cons_zero, List.set_cons_succ, aT, aU]
                rfl
              refine bE (i := 13) (N := some 127) (v := ?_) (a' := ?_) #[true, true, true, true, true, true, true, true, true, true, false, false, false, true, false, false, false, false, false, false, false, false, false, false, false, false, false, false] rfl rfl (bg HT_.out (by kernel_rfl)) (fun _ _ _ h => h) (Or.inl ⟨by rfl, ?_⟩) ?_ ?_
              rotate_left
              · intro w'
                go_simp
                with_reducible rfl
              rotate_left
              · simp only [Act.put, List.setIfInBounds_toArray, List.set_cons_zero, List.set_cons_succ, aT, aU]
                rfl
              refine bE (i := 14) (N := some 128) (v := ?_) (a' := ?_) #[true, true, true, true, true, true, true, true, true, true, false, false, false, true, true, false, false, false, false, false, false, false, false, false, false, false, false, false] rfl rfl (bg HT_.out (by kernel_rfl)) (fun _ _ _ h => h) (Or.inl ⟨by rfl, ?_⟩) ?_ ?_
              rotate_left
              · intro w'
                go_simp
                with_reducible rfl
              rotate_left
              · simp only [Act.put, List.setIfInBounds_toArray, List.set_cons_zero, List.set_cons_succ, aT, aU]
                rfl
              refine bE (i := 15) (N := some 129) (v := ?_) (a' := ?_) #[true, true, true, true, true, true, true, true, true, true, false, false, false, true, true, true, false, false, false, false, false, false, false, false, false, false, false, false] rfl rfl (bg HT_.out (by kernel_rfl)) (fun _ _ _ h => h) (Or.inl ⟨by rfl, ?_⟩) ?_ ?_
              rotate_left
              · intro w'
                go_simp
                with_reducible rfl
              rotate_left
              · simp only [Act.put, List.setIfInBounds_toArray, List.set_cons_zero, List.set_cons_succ, aT, aU]
                rfl
              refine bE (i := 16) (N := some 130) (v := ?_) (a' := ?_) #[true, true, true, true, true, true, true, true, true, true, false, false, false, true, true, true, true, false, false, false, false, false, false, false, false, false, false, false] rfl rfl (bg HT_.out (by kernel_rfl)) (fun _ _ _ h => h) (Or.inl ⟨by rfl, ?_⟩) ?_ ?_
              rotate_left
              · intro w'
                go_simp
                with_reducible rfl
              rotate_left
              · simp only [Act.put, List.setIfInBounds_toArray, List.set_cons_zero, List.set_cons_succ, aT, aU]
                rfl
              refine bE (i := 17) (N := some 131) (v := ?_) (a' := ?_) #[true, true, true, true, true, true, true, true, true, true, false, false, false, true, true, true, true, true, false, false, false, false, false, false, false, false, false, false] rfl rfl (bg HT_.out (by kernel_rfl)) (fun _ _ _ h => h) (Or.inl ⟨by rfl, ?_⟩) ?_ ?_
              rotate_left
              · intro w'
                go_simp
                with_reducible rfl
              rotate_left
              · simp only [Act.put, List.setIfInBounds_toArray, List.set_cons_zero, List.set_cons_succ, aT, aU]
                rfl
              refine bE (i := 18) (N := some 132) (v := ?_) (a' := ?_) #[true, true, true, true, true, true, true, true, true, true, false, false, false, true, true, true, true, true, true, false, false, false, false, false, false, false, false, false] rfl rfl (bg HT_.out (by kernel_rfl)) (fun _ _ _ h => h) (Or.inl ⟨by rfl, ?_⟩) ?_ ?_
              rotate_left
              · intro w'
                go_simp
                with_reducible rfl
              rotate_left
              · simp only [Act.put, List.setIfInBounds_toArray, List.set_cons_zero, List.set_cons_succ, aT, aU]
                rfl
              refine bE (i := 19) (N := some 133) (v := ?_) (a' := ?_) #[true, true, true, true, true, true, true, true, true, true, false, false, false, true, true, true, true, true, true, true, false, false, false, false, false, false, false, false] rfl rfl (bg HT_.out (by kernel_rfl)) (fun _ _ _ h => h) (Or.inl ⟨by rfl, ?_⟩) ?_ ?_
              rotate_left
              · intro w'
                go_simp
                with_reducible rfl
              rotate_left
              · simp only [Act.put, List.setIfInBounds_toArray, List.set_cons_zero, List.set_cons_succ, aT, aU]
                rfl
              refine bE (i := 20) (N := some 134) (v := ?_) (a' := ?_) #[true, true, true, true, true, true, true, true, true, true, false, false, false, true, true, true, true, true, true, true, true, false, false, false, false, false, false, false] rfl rfl (bg HT_.out (by kernel_rfl)) (fun _ _ _ h => h) (Or.inl ⟨by rfl, ?_⟩) ?_ ?_
              rotate_left
              · intro w'
                go_simp
                with_reducible rfl
              rotate_left
              · simp only [Act.put, List.setIfInBounds_toArray, List.set_cons_zero, List.set_cons_succ, aT, aU]
                rfl
              refine bE (i := 21) (N := some 135) (v := ?_) (a' := ?_) #[true, true, true, true, true, true, true, true, true, true, false, false, false, true, true, true, true, true, true, true, true, true, false, false, false, false, false, false] rfl rfl (bg HT_.out (by kernel_rfl)) (fun _ _ _ h => h) (Or.inl ⟨by rfl, ?_⟩) ?_ ?_
              rotate_left
              · intro w'
                go_simp
                with_reducible rfl
              rotate_left
              · simp only [Act.put, List.setIfInBounds_toArray, List.set_cons_zero, List.set_cons_succ, aT, aU]
                rfl
              refine bE (i := 22) (N := some 136) (v := ?_) (a' := ?_) #[true, true, true, true, true, true, true, true, true, true, false, false, false, true, true, true, true, true, true, true, true, true, true, false, false, false, false, false] rfl rfl (bg HT_.out (by kernel_rfl)) (fun _ _ _ h => h) (Or.inl ⟨by rfl, ?_⟩) ?_ ?_
              rotate_left
              · intro w'
                go_simp
                with_reducible rfl
              rotate_left
              · simp only [Act.put, List.setIfInBounds_toArray, List.set_cons_zero, List.set_cons_succ, aT, aU]
                rfl
              refine dI (i := 10) (N := some 124) (v := ?_) (a' := ?_) #[true, true, true, true, true, true, true, true, true, true, true, false, false, true, true, true, true, true, true, true, true, true, true, false, false, false, false, false] rfl rfl (bU HT_.out HW_.out (by kernel_rfl)) (fun _ _ _ h => h) (Or.inl ⟨by rfl, ?_⟩) hHeld ?_ ?_
              rotate_left
              · intro w' s0
                have e0 : w'.cell? ⟨gx,0,none⟩ = some (.int .i64 X.f0) := (ah (aI HM.out.hx s0) 0).trans rfl
                have e1 : w'.cell? ⟨gx,1,none⟩ = some (.bool X.f1) := (ah (aI HM.out.hx s0) 1).trans rfl
                have e2 : w'.cell? ⟨gx,2,none⟩ = some (.int .i64 X.f2) := (ah (aI HM.out.hx s0) 2).trans rfl
                have e3 : w'.cell? ⟨gx,3,none⟩ = some (.string X.f3) := (ah (aI HM.out.hx s0) 3).trans rfl
                have e4 : w'.cell? ⟨gx,4,none⟩ = some (.slice A4 X.f4.length c4) := (ah (aI HM.out.hx s0) 4).trans rfl
                have e5 : w'.cell? ⟨gx,5,none⟩ = some (.slice A5 X.f5.length c5) := (ah (aI HM.out.hx s0) 5).trans rfl
                have f0 : w'.cell? ⟨gy,0,none⟩ = some (.int .i64 X.f0) := (ah (aI HM.out.hy s0) 0).trans rfl
                have f1 : w'.cell? ⟨gy,1,none⟩ = some (.bool X.f1) := (ah (aI HM.out.hy s0) 1).trans rfl
                have f2 : w'.cell? ⟨gy,2,none⟩ = some (.int .i64 X.f2) := (ah (aI HM.out.hy s0) 2).trans rfl
                have f3 : w'.cell? ⟨gy,3,none⟩ = some (.string X.f3) := (ah (aI HM.out.hy s0) 3).trans rfl
                have f4 : w'.cell? ⟨gy,4,none⟩ = some (.slice B4 (cZ X.f4).length d4) := (ah (aI HM.out.hy s0) 4).trans rfl
                have f5 : w'.cell? ⟨gy,5,none⟩ = some (.slice B5 (dz X.f5).length d5) := (ah (aI HM.out.hy s0) 5).trans rfl
                go_simp
                with_reducible rfl
              rotate_left
              · simp only [Act.put, List.setIfInBounds_toArray, List.set_cons_zero, List.set_cons_succ, aT, aU]
                rfl
              refine dI (i := 23) (N := some 137) (v := ?_) (a' := ?_) #[true, true, true, true, true, true, true, true, true, true, true, false, false, true, true, true, true, true, true, true, true, true, true, true, false, false, false, false] rfl rfl (bU HT_.out HW_.out (by kernel_rfl)) (fun _ _ _ h => h) (Or.inl ⟨by rfl, ?_⟩) hHeld ?_ ?_
              rotate_left
              · intro w' s0
                have e0 : w'.cell? ⟨gx,0,none⟩ = some (.int .i64 X.f0) := (ah (aI HM.out.hx s0) 0).trans rfl
                have e1 : w'.cell? ⟨gx,1,none⟩ = some (.bool X.f1) := (ah (aI HM.out.hx s0) 1).trans rfl
                have e2 : w'.cell? ⟨gx,2,none⟩ = some (.int .i64 X.f2) := (ah (aI HM.out.hx s0) 2).trans rfl
                have e3 : w'.cell? ⟨gx,3,none⟩ = some (.string X.f3) := (ah (aI HM.out.hx s0) 3).trans rfl
                have e4 : w'.cell? ⟨gx,4,none⟩ = some (.slice A4 X.f4.length c4) := (ah (aI HM.out.hx s0) 4).trans rfl
                have e5 : w'.cell? ⟨gx,5,none⟩ = some (.slice A5 X.f5.length c5) := (ah (aI HM.out.hx s0) 5).trans rfl
                have f0 : w'.cell? ⟨gy,0,none⟩ = some (.int .i64 X.f0) := (ah (aI HM.out.hy s0) 0).trans rfl
                have f1 : w'.cell? ⟨gy,1,none⟩ = some (.bool X.f1) := (ah (aI HM.out.hy s0) 1).trans rfl
                have f2 : w'.cell? ⟨gy,2,none⟩ = some (.int .i64 X.f2) := (ah (aI HM.out.hy s0) 2).trans rfl
                have f3 : w'.cell? ⟨gy,3,none⟩ = some (.string X.f3) := (ah (aI HM.out.hy s0) 3).trans rfl
                have f4 : w'.cell? ⟨gy,4,none⟩ = some (.slice B4 (cZ X.f4).length d4) := (ah (aI HM.out.hy s0) 4).trans rfl
                have f5 : w'.cell? ⟨gy,5,none⟩ = some (.slice B5 (dz X.f5).length d5) := (ah (aI HM.out.hy s0) 5).trans rfl
                go_simp
                with_reducible rfl
              rotate_left
              · simp only [Act.put, List.setIfInBounds_toArray, List.set_cons_zero, List.set_cons_succ, aT, aU]
                rfl
              refine oQ (σ := Value × Value × Value) 3 #[true, true, true, true, true, true, true, true, true, true, true, true, true, true, true, true, true, true, true, true, true, true, true, true, true, false, false, false] (fun s => [(125, s.1), (126, s.2.1), (138, s.2.2)]) (fun s w' => Aside0 (Below wc.heap.size wc w') ∧ Aside0 (Kd.V k29 29 w' 0 (okG w.heap.size [g2, g3]) s.2.1 (T ++ [X])) ∧ Aside0 (Kd.V k33 33 w' 0 (okG w.heap.size [g2, g3]) s.2.2 [xR])) ?_ ?_
              rotate_left
              · intro hCont
                refine mR (i := 11) (j := 24) (Ni := some 125) (Nj := some 138) #[true, true, true, true, true, true, true, true, true, true, true, true, false, true, true, true, true, true, true, true, true, true, true, true, false, false, false, false] #[true, true, true, true, true, true, true, true, true, true, true, false, false, true, true, true, true, true, true, true, true, true, true, true, true, false, false, false] rfl rfl rfl rfl (iW HT_.out (by kernel_rfl)) (by decide) (by decide) (fun K hK => ?_) (fun K hK => ?_)
                · skip
                  refine Kd.dA k29 (w0 := w) w.heap.size 29 ?hg (N' := 125) ?hd (xs := [X]) (inner := [.int .i64 X.f0, .bool X.f1, .int .i64 X.f2, .string X.f3, .slice A4 X.f4.length c4, .slice A5 X.f5.length c5]) (ok := (okG w.heap.size [g2, g3])) (okp := (okG w.heap.size [g2, g3])) ?hr ?hp (fun _ hk => hk) ((HOw.out.below HB.out).fresh (Nat.le_refl _)) (HOw.out.below HB.out).b (HOw.out.below HB.out).b.size (by simp) ?_
                  (case hd => rfl)
                  (case hg => rfl)
                  (case hr => first | (go_simp; done) | (go_simp; rfl))
                  (case hp => exact cu.c6 (show Kd.FK k29 _ _ X [.int .i64 X.f0, .bool X.f1, .int .i64 X.f2, .string X.f3, .slice A4 X.f4.length c4, .slice A5 X.f5.length c5] from iI _ _ X (Kd.jM (Kd.bB HM.out.x4 HB.out)).2.1 (Kd.V_F (Kd.bB HM.out.x4 HB.out)) (Kd.jM (Kd.bB HM.out.x5 HB.out)).2.1 (Kd.V_F (Kd.bB HM.out.x5 HB.out))) (cu.none _ _))
                  intro zA wa hn hb_ hg_ hnew_
                  have hb2 := dB hg_
                  clear hb_ hg_ hnew_
                  have hB2 := aK HB.out hb2
                  replace HB := Aside0.mk hB2
                  clear hB2 hb2
                  have LX := Aside0.mk (Kd.N_V (base' := 0) hn)
                  clear hn
                  obtain ⟨Ax, cx, ex⟩ := Kd.dJ LX.out
                  subst ex
                  refine hK.out _ _ (HB.out) (fun hHeld => ?_)
                  clear hK K
                  refine cB (a' := ?_) ?_ ?_
                  rotate_left
                  · show Act.put _ (some 125) _ = _
                    simp only [Act.put, List.setIfInBounds_toArray, List.set_cons_zero, List.set_cons_succ, aT, aU]
                    rfl
                  refine mR (i := 12) (j := 24) (Ni := some 126) (Nj := some 138) #[true, true, true, true, true, true, true, true, true, true, true, true, true, true, true, true, true, true, true, true, true, true, true, true, false, false, false, false] #[true, true, true, true, true, true, true, true, true, true, true, true, false, true, true, true, true, true, true, true, true, true, true, true, true, false, false, false] rfl rfl rfl rfl (iW HT_.out (by kernel_rfl)) (by decide) (by decide) (fun K hK => ?_) (fun K hK => ?_)
                  · skip
                    refine gG k29 (w0 := w) w.heap.size (by rfl) (.tmp 123) (.tmp 125) 26 29 (.agg #[(.int .i64 0),(.bool false),(.int .i64 0),(.string ⟨#[]⟩),(.slice none 0 0),(.slice none 0 0)]) 88 rfl Tryd.underlying26 jD rfl (by decide) (by omega) T [X] Aa Ax [X].length cx (okG w.heap.size [g2, g3]) (okG w.heap.size [g2, g3]) rfl rfl (Kd.gZ HTF.out HB.out) (Kd.V_F LX.out) (by simp) (fun _ hk _ => hk) (fun k hk => (HOw.out.below HB.out).fresh hk) (fun e => oF (e ▸ HTF.out)) (by have := HTn.out; simp only [List.length_singleton]; omega) ?_
                    intro yA wa hn hb2
                    have hB2 := aK HB.out hb2
                    replace LX := Aside0.mk (Kd.bB LX.out hb2)
                    replace HB := Aside0.mk hB2
                    clear hB2 hb2
                    have NA := Aside0.mk (Kd.N_V (base' := 0) hn)
                    clear hn
                    refine hK.out _ _ (HB.out) (fun hHeld => ?_)
                    clear hK K
                    refine cB (a' := ?_) ?_ ?_
                    rotate_left
                    · show Act.put _ (some 126) _ = _
                      simp only [Act.put, List.setIfInBounds_toArray, List.set_cons_zero, List.set_cons_succ, aT, aU]
                      rfl
                    refine fM (i := 24) (N := some 138) #[true, true, true, true, true, true, true, true, true, true, true, true, true, true, true, true, true, true, true, true, true, true, true, true, true, false, false, false] rfl rfl (dx HT_.out (by kernel_rfl)) (by decide) (fun K hK => ?_)
                    refine Kd.dA k33 (w0 := w) w.heap.size 33 ?hg (N' := 138) ?hd (xs := [xR]) (inner := [.int .i64 X.f0, .bool X.f1, .int .i64 X.f2, .string X.f3, .slice B4 (cZ X.f4).length d4, .slice B5 (dz X.f5).length d5]) (ok := (okG w.heap.size [g2, g3])) (okp := (okG w.heap.size [g2, g3])) ?hr ?hp (fun _ hk => hk) ((HOw.out.below HB.out).fresh (Nat.le_refl _)) (HOw.out.below HB.out).b (HOw.out.below HB.out).b.size (by simp) ?_
                    (case hd => rfl)
                    (case hg => rfl)
                    (case hr => first | (go_simp; done) | (go_simp; rfl))
                    (case hp => exact cu.c6 (show Kd.FK k33 _ _ xR [.int .i64 X.f0, .bool X.f1, .int .i64 X.f2, .string X.f3, .slice B4 (cZ X.f4).length d4, .slice B5 (dz X.f5).length d5] from HXR.out ▸ jF _ _ (⟨X.f0, X.f1, X.f2, X.f3, cZ X.f4, dz X.f5⟩ : S33) (Kd.jM (Kd.bB HM.out.y4 HB.out)).2.1 (Kd.V_F (Kd.bB HM.out.y4 HB.out)) (Kd.jM (Kd.bB HM.out.y5 HB.out)).2.1 (Kd.V_F (Kd.bB HM.out.y5 HB.out))) (cu.none _ _))
                    intro v138 wa hn hb_ hg_ hnew_
                    have hb2 := dB hg_
                    clear hb_ hg_ hnew_
                    have hB2 := aK HB.out hb2
                    replace NA := Aside0.mk (Kd.bB NA.out hb2)
                    replace HB := Aside0.mk hB2
                    clear hB2 hb2
                    have LY := Aside0.mk (Kd.N_V (base' := 0) hn)
                    clear hn
                    obtain ⟨Ay, cy, ey⟩ := Kd.dJ LY.out
                    subst ey
                    refine hK.out _ _ (HB.out) (fun hHeld => ?_)
                    clear hK K
                    refine cB (a' := ?_) ?_ ?_
                    rotate_left
                    · show Act.put _ (some 138) _ = _
                      simp only [Act.put, List.setIfInBounds_toArray, List.set_cons_zero, List.set_cons_succ, aT, aU]
                      rfl
                    exact cB (by simp only [fO, Act.put, List.setIfInBounds_toArray, List.set_cons_zero, List.set_cons_succ]) (hCont (Value.slice Ax [X].length cx, yA, Value.slice Ay [xR].length cy) _ ⟨HB, NA, LY⟩)
                  · skip
                    refine Kd.dA k33 (w0 := w) w.heap.size 33 ?hg (N' := 138) ?hd (xs := [xR]) (inner := [.int .i64 X.f0, .bool X.f1, .int .i64 X.f2, .string X.f3, .slice B4 (cZ X.f4).length d4, .slice B5 (dz X.f5).length d5]) (ok := (okG w.heap.size [g2, g3])) (okp := (okG w.heap.size [g2, g3])) ?hr ?hp (fun _ hk => hk) ((HOw.out.below HB.out).fresh (Nat.le_refl _)) (HOw.out.below HB.out).b (HOw.out.below HB.out).b.size (by simp) ?_
                    (case hd => rfl)
                    (case hg => rfl)
                    (case hr => first | (go_simp; done) | (go_simp; rfl))
                    (case hp => exact cu.c6 (show Kd.FK k33 _ _ xR [.int .i64 X.f0, .bool X.f1, .int .i64 X.f2, .string X.f3, .slice B4 (cZ X.f4).length d4, .slice B5 (dz X.f5).length d5] from HXR.out ▸ jF _ _ (⟨X.f0, X.f1, X.f2, X.f3, cZ X.f4, dz X.f5⟩ : S33) (Kd.jM (Kd.bB HM.out.y4 HB.out)).2.1 (Kd.V_F (Kd.bB HM.out.y4 HB.out)) (Kd.jM (Kd.bB HM.out.y5 HB.out)).2.1 (Kd.V_F (Kd.bB HM.out.y5 HB.out))) (cu.none _ _))
                    intro v138 wa hn hb_ hg_ hnew_
                    have hb2 := dB hg_
                    clear hb_ hg_ hnew_
                    have hB2 := aK HB.out hb2
                    replace LX := Aside0.mk (Kd.bB LX.out hb2)
                    replace HB := Aside0.mk hB2
                    clear hB2 hb2
                    have LY := Aside0.mk (Kd.N_V (base' := 0) hn)
                    clear hn
                    obtain ⟨Ay, cy, ey⟩ := Kd.dJ LY.out
                    subst ey
                    refine hK.out _ _ (HB.out) (fun hHeld => ?_)
                    clear hK K
                    refine cB (a' := ?_) ?_ ?_
                    rotate_left
                    · show Act.put _ (some 138) _ = _
                      simp only [Act.put, List.setIfInBounds_toArray, List.set_cons_zero, List.set_cons_succ, aT, aU]
                      rfl
                    refine fM (i := 12) (N := some 126) #[true, true, true, true, true, true, true, true, true, true, true, true, true, true, true, true, true, true, true, true, true, true, true, true, true, false, false, false] rfl rfl (dx HT_.out (by kernel_rfl)) (by decide) (fun K hK => ?_)
                    refine gG k29 (w0 := w) w.heap.size (by rfl) (.tmp 123) (.tmp 125) 26 29 (.agg #[(.int .i64 0),(.bool false),(.int .i64 0),(.string ⟨#[]⟩),(.slice none 0 0),(.slice none 0 0)]) 88 rfl Tryd.underlying26 jD rfl (by decide) (by omega) T [X] Aa Ax [X].length cx (okG w.heap.size [g2, g3]) (okG w.heap.size [g2, g3]) rfl rfl (Kd.gZ HTF.out HB.out) (Kd.V_F LX.out) (by simp) (fun _ hk _ => hk) (fun k hk => (HOw.out.below HB.out).fresh hk) (fun e => oF (e ▸ HTF.out)) (by have := HTn.out; simp only [List.length_singleton]; omega) ?_
                    intro yA wa hn hb2
                    have hB2 := aK HB.out hb2
                    replace LX := Aside0.mk (Kd.bB LX.out hb2)
                    replace LY := Aside0.mk (Kd.bB LY.out hb2)
                    replace HB := Aside0.mk hB2
                    clear hB2 hb2
                    have NA := Aside0.mk (Kd.N_V (base' := 0) hn)
                    clear hn
                    refine hK.out _ _ (HB.out) (fun hHeld => ?_)
                    clear hK K
                    refine cB (a' := ?_) ?_ ?_
                    rotate_left
                    · show Act.put _ (some 126) _ = _
                      simp only [Act.put, List.setIfInBounds_toArray, List.set_cons_zero, List.set_cons_succ, aT, aU]
                      rfl
                    exact cB (by simp only [fO, Act.put, List.setIfInBounds_toArray, List.set_cons_zero, List.set_cons_succ]) (hCont (Value.slice Ax [X].length cx, yA, Value.slice Ay [xR].length cy) _ ⟨HB, NA, LY⟩)
                · skip
                  refine Kd.dA k33 (w0 := w) w.heap.size 33 ?hg (N' := 138) ?hd (xs := [xR]) (inner := [.int .i64 X.f0, .bool X.f1, .int .i64 X.f2, .string X.f3, .slice B4 (cZ X.f4).length d4, .slice B5 (dz X.f5).length d5]) (ok := (okG w.heap.size [g2, g3])) (okp := (okG w.heap.size [g2, g3])) ?hr ?hp (fun _ hk => hk) ((HOw.out.below HB.out).fresh (Nat.le_refl _)) (HOw.out.below HB.out).b (HOw.out.below HB.out).b.size (by simp) ?_
                  (case hd => rfl)
                  (case hg => rfl)
                  (case hr => first | (go_simp; done) | (go_simp; rfl))
                  (case hp => exact cu.c6 (show Kd.FK k33 _ _ xR [.int .i64 X.f0, .bool X.f1, .int .i64 X.f2, .string X.f3, .slice B4 (cZ X.f4).length d4, .slice B5 (dz X.f5).length d5] from HXR.out ▸ jF _ _ (⟨X.f0, X.f1, X.f2, X.f3, cZ X.f4, dz X.f5⟩ : S33) (Kd.jM (Kd.bB HM.out.y4 HB.out)).2.1 (Kd.V_F (Kd.bB HM.out.y4 HB.out)) (Kd.jM (Kd.bB HM.out.y5 HB.out)).2.1 (Kd.V_F (Kd.bB HM.out.y5 HB.out))) (cu.none _ _))
                  intro v138 wa hn hb_ hg_ hnew_
                  have hb2 := dB hg_
                  clear hb_ hg_ hnew_
                  have hB2 := aK HB.out hb2
                  replace HB := Aside0.mk hB2
                  clear hB2 hb2
                  have LY := Aside0.mk (Kd.N_V (base' := 0) hn)
                  clear hn
                  obtain ⟨Ay, cy, ey⟩ := Kd.dJ LY.out
                  subst ey
                  refine hK.out _ _ (HB.out) (fun hHeld => ?_)
                  clear hK K
                  refine cB (a' := ?_) ?_ ?_
                  rotate_left
                  · show Act.put _ (some 138) _ = _
                    simp only [Act.put, List.setIfInBounds_toArray, List.set_cons_zero, List.set_cons_succ, aT, aU]
                    rfl
                  refine fM (i := 11) (N := some 125) #[true, true, true, true, true, true, true, true, true, true, true, true, false, true, true, true, true, true, true, true, true, true, true, true, true, false, false, false] rfl rfl (dx HT_.out (by kernel_rfl)) (by decide) (fun K hK => ?_)
                  refine Kd.dA k29 (w0 := w) w.heap.size 29 ?hg (N' := 125) ?hd (xs := [X]) (inner := [.int .i64 X.f0, .bool X.f1, .int .i64 X.f2, .string X.f3, .slice A4 X.f4.length c4, .slice A5 X.f5.length c5]) (ok := (okG w.heap.size [g2, g3])) (okp := (okG w.heap.size [g2, g3])) ?hr ?hp (fun _ hk => hk) ((HOw.out.below HB.out).fresh (Nat.le_refl _)) (HOw.out.below HB.out).b (HOw.out.below HB.out).b.size (by simp) ?_
                  (case hd => rfl)
                  (case hg => rfl)
                  (case hr => first | (go_simp; done) | (go_simp; rfl))
                  (case hp => exact cu.c6 (show Kd.FK k29 _ _ X [.int .i64 X.f0, .bool X.f1, .int .i64 X.f2, .string X.f3, .slice A4 X.f4.length c4, .slice A5 X.f5.length c5] from iI _ _ X (Kd.jM (Kd.bB HM.out.x4 HB.out)).2.1 (Kd.V_F (Kd.bB HM.out.x4 HB.out)) (Kd.jM (Kd.bB HM.out.x5 HB.out)).2.1 (Kd.V_F (Kd.bB HM.out.x5 HB.out))) (cu.none _ _))
                  intro zA wa hn hb_ hg_ hnew_
                  have hb2 := dB hg_
                  clear hb_ hg_ hnew_
                  have hB2 := aK HB.out hb2
                  replace LY := Aside0.mk (Kd.bB LY.out hb2)
                  replace HB := Aside0.mk hB2
                  clear hB2 hb2
                  have LX := Aside0.mk (Kd.N_V (base' := 0) hn)
                  clear hn
                  obtain ⟨Ax, cx, ex⟩ := Kd.dJ LX.out
                  subst ex
                  refine hK.out _ _ (HB.out) (fun hHeld => ?_)
                  clear hK K
                  refine cB (a' := ?_) ?_ ?_
                  rotate_left
                  · show Act.put _ (some 125) _ = _
                    simp only [Act.put, List.setIfInBounds_toArray, List.set_cons_zero, List.set_cons_succ, aT, aU]
                    rfl
                  refine fM (i := 12) (N := some 126) #[true, true, true, true, true, true, true, true, true, true, true, true, true, true, true, true, true, true, true, true, true, true, true, true, true, false, false, false] rfl rfl (dx HT_.out (by kernel_rfl)) (by decide) (fun K hK => ?_)
                  refine gG k29 (w0 := w) w.heap.size (by rfl) (.tmp 123) (.tmp 125) 26 29 (.agg #[(.int .i64 0),(.bool false),(.int .i64 0),(.string ⟨#[]⟩),(.slice none 0 0),(.slice none 0 0)]) 88 rfl Tryd.underlying26 jD rfl (by decide) (by omega) T [X] Aa Ax [X].length cx (okG w.heap.size [g2, g3]) (okG w.heap.size [g2, g3]) rfl rfl (Kd.gZ HTF.out HB.out) (Kd.V_F LX.out) (by simp) (fun _ hk _ => hk) (fun k hk => (HOw.out.below HB.out).fresh hk) (fun e => oF (e ▸ HTF.out)) (by have := HTn.out; simp only [List.length_singleton]; omega) ?_
                  intro yA wa hn hb2
                  have hB2 := aK HB.out hb2
                  replace LX := Aside0.mk (Kd.bB LX.out hb2)
                  replace LY := Aside0.mk (Kd.bB LY.out hb2)
                  replace HB := Aside0.mk hB2
                  clear hB2 hb2
                  have NA := Aside0.mk (Kd.N_V (base' := 0) hn)
                  clear hn
                  refine hK.out _ _ (HB.out) (fun hHeld => ?_)
                  clear hK K
                  refine cB (a' := ?_) ?_ ?_
                  rotate_left
                  · show Act.put _ (some 126) _ = _
                    simp only [Act.put, List.setIfInBounds_toArray, List.set_cons_zero, List.set_cons_succ, aT, aU]
                    rfl
                  exact cB (by simp only [fO, Act.put, List.setIfInBounds_toArray, List.set_cons_zero, List.set_cons_succ]) (hCont (Value.slice Ax [X].length cx, yA, Value.slice Ay [xR].length cy) _ ⟨HB, NA, LY⟩)
              rintro ⟨zA, yA, v138⟩ wq ⟨HB, NA, LY⟩
              have hHeld : Below wc.heap.size wc wq := HB.out
              obtain ⟨Ay, cy, ey⟩ := Kd.dJ LY.out
              dsimp only at ey
              subst ey
              refine cB (a' := ?_) ?_ ?_
              rotate_left
              · simp only [fO, Act.put, List.setIfInBounds_toArray, List.set_cons_zero, List.set_cons_succ]
                rfl
              refine fM (i := 25) (N := some 139) #[true, true, true, true, true, true, true, true, true, true, true, true, true, true, true, true, true, true, true, true, true, true, true, true, true, true, false, false] rfl rfl (dx HT_.out (by kernel_rfl)) (by decide) (fun K hK => ?_)
              refine gG k33 (w0 := w) w.heap.size (by rfl) (.tmp 136) (.tmp 138) 30 33 (.agg #[(.int .i64 0),(.bool false),(.int .i64 0),(.string ⟨#[]⟩),(.slice none 0 0),(.slice none 0 0)]) 88 rfl Tryd.underlying30 oC rfl (by decide) (by omega) (cZ T) [xR] Ab Ay [xR].length cy (okG w.heap.size [g2, g3]) (okG w.heap.size [g2, g3]) rfl rfl (Kd.gZ HTR.out HB.out) (Kd.V_F LY.out) (by simp) (fun _ hk _ => hk) (fun k hk => (HOw.out.below HB.out).fresh hk) (fun e => oF (e ▸ HTR.out)) (by have := HTn.out; simp only [List.length_singleton, dW]; omega) ?_
              intro v139 wa hn hb2
              have hB2 := aK HB.out hb2
              replace NA := Aside0.mk (Kd.bB NA.out hb2)
              replace HB := Aside0.mk hB2
              clear hB2 hb2
              have NB := Aside0.mk (Kd.N_V (base' := 0) hn)
              clear hn LY
              refine hK.out _ _ (HB.out) (fun hHeld => ?_)
              clear hK K
              refine cB (a' := ?_) ?_ ?_
              rotate_left
              · show Act.put _ (some 139) _ = _
                simp only [Act.put, List.setIfInBounds_toArray, List.set_cons_zero, List.set_cons_succ, aT, aU]
                rfl
              refine bE (i := 26) (N := some 4) (v := ?_) (a' := ?_) #[true, true, true, true, true, true, true, true, true, true, true, true, true, true, true, true, true, true, true, true, true, true, true, true, true, true, true, false] rfl rfl (bg HT_.out (by kernel_rfl)) (fun _ _ _ h => h) (Or.inl ⟨by rfl, ?_⟩) ?_ ?_
              rotate_left
              · intro w'
                go_simp
                with_reducible rfl
              rotate_left
              · simp only [Act.put, List.setIfInBounds_toArray, List.set_cons_zero, List.set_cons_succ, aT, aU]
                rfl
              refine bE (i := 27) (N := some 5) (v := ?_) (a' := ?_) #[true, true, true, true, true, true, true, true, true, true, true, true, true, true, true, true, true, true, true, true, true, true, true, true, true, true, true, true] rfl rfl (bg HT_.out (by kernel_rfl)) (fun _ _ _ h => h) (Or.inl ⟨by rfl, ?_⟩) ?_ ?_
              rotate_left
              · intro w'
                go_simp
                with_reducible rfl
              rotate_left
              · simp only [Act.put, List.setIfInBounds_toArray, List.set_cons_zero, List.set_cons_succ, aT, aU]
                rfl
              refine jh (gL HT_.out (by kernel_rfl)) ?_
              have hw16 : wrap64 ((i : Int) + 1) = ((i + 1 : Nat) : Int) := iQ (by push_cast; rfl) (by have := ze.out; have := HL.out; omega)
              try go_wp2
              go_roundg (l0.length - (i + 1))
              case measure => have := HI.out.1; have := ze.out; omega
              case rel => exact ⟨T ++ [X], i + 1, (by first | rfl | (simp; done) | (simp [*]; done)), ⟨rfl, ze.out, by rw [← HTE.out, List.length_append, List.length_take, List.length_singleton]; have := HI.out.2.2.1; omega, by rw [← HTE.out]; exact sP ze.out HP.out HKE.out HX.out HI.out.2.2.2⟩, ⟨HOw.out.next (HB.out.trans (by (with_reducible repeat (first | apply av | apply ak | apply au)); exact (Below.refl _ _))) (by rw [lI]; exact HXR.out.symm) NA.out NB.out⟩⟩
    · have c4b0 : decide ((i : Int) < (l0.length : Int)) = false := decide_eq_false c4
      have c4b1 : decide (i < l0.length) = false := decide_eq_false (by omega)
      have c4b2 : (i < l0.length) = False := eq_false (by omega)
      have hla : laF = la := by
        have h := HI.out.2.2.2
        rw [List.drop_of_length_le (by omega)] at h
        exact (Option.some.inj h).symm
      have hll : la.length ≤ 1000000 := Nat.le_trans HI.out.2.2.1 (Nat.le_trans HI.out.2.1 HL.out)
      have NE := Aside0.mk (iN HO.out.h2 HO.out.h3 (by decide))
      subst hla
      clear c4 HI
      obtain ⟨wr, hwr⟩ : ∃ q, q = w1 := ⟨_, rfl⟩
      subst hwr
      by_cases hz : laF = []
      · subst hz
        have n1 := NE.out
        have n2 := NE.out.symm
        have BM : wr.cell? ⟨g2,0,none⟩ = some (.int .i64 0) := (ah HO.out.h2 0).trans rfl
        have BN := aj HO.out.h2 0
        have BO : wr.cell? ⟨g2,1,none⟩ = some (.bool false) := (ah HO.out.h2 1).trans rfl
        have BP := aj HO.out.h2 1
        have BQ : wr.cell? ⟨g2,2,none⟩ = some (.int .i64 0) := (ah HO.out.h2 2).trans rfl
        have BR := aj HO.out.h2 2
        have BS : wr.cell? ⟨g2,3,none⟩ = some (.string (⟨#[]⟩ : ByteArray)) := (ah HO.out.h2 3).trans rfl
        have BU := aj HO.out.h2 3
        have BZ : wr.cell? ⟨g2,4,none⟩ = some (.slice none 0 0) := (ah HO.out.h2 4).trans rfl
        have Ca := aj HO.out.h2 4
        have Cb : wr.cell? ⟨g2,5,none⟩ = some (.slice none 0 0) := (ah HO.out.h2 5).trans rfl
        have Cc := aj HO.out.h2 5
        have Ce : wr.cell? ⟨g3,0,none⟩ = some (.int .i64 0) := (ah HO.out.h3 0).trans rfl
        have Cg := aj HO.out.h3 0
        have Ch : wr.cell? ⟨g3,1,none⟩ = some (.bool false) := (ah HO.out.h3 1).trans rfl
        have Ci := aj HO.out.h3 1
        have Cj : wr.cell? ⟨g3,2,none⟩ = some (.int .i64 0) := (ah HO.out.h3 2).trans rfl
        have Ck := aj HO.out.h3 2
        have Cm : wr.cell? ⟨g3,3,none⟩ = some (.string (⟨#[]⟩ : ByteArray)) := (ah HO.out.h3 3).trans rfl
        have Cn := aj HO.out.h3 3
        have Co : wr.cell? ⟨g3,4,none⟩ = some (.slice none 0 0) := (ah HO.out.h3 4).trans rfl
        have Cq := aj HO.out.h3 4
        have Cr : wr.cell? ⟨g3,5,none⟩ = some (.slice none 0 0) := (ah HO.out.h3 5).trans rfl
        have Ct := aj HO.out.h3 5
        go_wp2
        obtain ⟨yN, e24, zI, yH, yF, zB⟩ := lX (.int .i64 0) (.bool false) (.int .i64 0) (.string (⟨#[]⟩ : ByteArray)) (.slice none 0 0) (.slice none 0 0) HO.out.b HO.out.h2 HO.out.e2
        rw [e24]
        obtain ⟨Cu, e25, zJ, yI, yG, zC⟩ := lX (.int .i64 0) (.bool false) (.int .i64 0) (.string (⟨#[]⟩ : ByteArray)) (.slice none 0 0) (.slice none 0 0) yH ((yF g3 NE.out.symm).trans HO.out.h3) HO.out.e3
        rw [e25]
        have zD := Aside0.mk ((yG g2 NE.out).trans zI)
        have AV := Aside0.mk zJ
        refine bodyPost_ret (mD rfl _ _ g2 g3 29 33 #[.int .i64 0,.bool false,.int .i64 0,.string (⟨#[]⟩ : ByteArray),.slice none 0 0,.slice none 0 0] #[.int .i64 0,.bool false,.int .i64 0,.string (⟨#[]⟩ : ByteArray),.slice none 0 0,.slice none 0 0] (0,0) (0,0) _ _ rfl zD.out Tryd.underlying29 rfl (by kernel_rfl) rfl AV.out Tryd.underlying33 rfl (by kernel_rfl)) rfl ?_
        exact ⟨_, _, _, _, rfl, Kd.eT _ _ _ _ _, Kd.eT _ _ _ _ _, Kd.eT _ _ _ _ _, Kd.eT _ _ _ _ _, yI⟩
      have hpos : 0 < laF.length := List.length_pos_iff.2 hz
      obtain ⟨q, hq⟩ : ∃ q, laF.length - 1 = q := ⟨_, rfl⟩
      have hqn : q < laF.length := by omega
      have hwq : wrap64 ((laF.length : Int) - 1) = (q : Int) := iQ (by omega) (by omega)
      have c168b0 : ((laF.length : Int) == 0) = false := beq_eq_false_iff_ne.mpr (by omega)
      have c168b1 : ((laF.length : Int) != 0) = true := bne_iff_ne.mpr (by omega)
      have c168b2 : (laF.length == 0) = false := beq_eq_false_iff_ne.mpr (by omega)
      have c168b3 : (laF = []) = False := eq_false hz
      obtain ⟨ada, eada⟩ : ∃ ad, Aa = some ad := by
        obtain ⟨ad, e, _⟩ := (Kd.bM HO.out.a).2.2.2.2 hpos
        exact ⟨ad, e⟩
      subst eada
      have hOc := HO.out.c
      rw [← dW] at hOc
      obtain ⟨adb, eadb⟩ : ∃ ad, Ab = some ad := by
        obtain ⟨ad, e, _⟩ := (Kd.bM hOc).2.2.2.2 (by rw [dW]; omega)
        exact ⟨ad, e⟩
      subst eadb
      have Bp := Aside0.mk (show ada.block ≠ g2 ∧ adb.block ≠ g2 from by
        have z1 := (u6 HO.out.a z29 hpos (by decide)).2
        have z2 := (u6 hOc z33 (by rw [dW]; exact hpos) (by decide)).2
        simp only [List.mem_cons, List.not_mem_nil, or_false, not_or] at z1 z2
        exact ⟨z1.1, z2.1⟩)
      obtain ⟨A4, c4, A5, c5, hl4, yQ, hl5, yR, yc, yg, yh, yj, yt, yu⟩ := uX HO.out.a q hqn
      obtain ⟨B4, d4, B5, d5, yJ, yK, yL, yM, xU, xV, xW, xX, xY, xZ⟩ := uY hOc q (by rw [dW]; exact hqn)
      have hbl := sS hq
      obtain ⟨v, hv⟩ : ∃ v, aH laF (q : Int) = v := ⟨_, rfl⟩
      rw [kV, hv, lI] at yJ yK yL yM xU xV xW xX xY xZ
      rw [hv] at hl4 yQ hl5 yR yc yg yh yj yt yu
      have HVE := Aside0.mk (hbl.trans hv)
      clear hbl
      obtain ⟨u, hu⟩ : ∃ u : S33, (⟨v.f0, v.f1, v.f2, v.f3, cZ v.f4, dz v.f5⟩ : S33) = u := ⟨_, rfl⟩
      rw [hu] at yJ yK yL yM xU xV xW xX xY xZ
      have HU := Aside0.mk hu
      have HVL := Aside0.mk (show v.f4.length ≤ c4 ∧ v.f5.length ≤ c5 from ⟨hl4, hl5⟩)
      have HUL := Aside0.mk (show u.f4.length ≤ d4 ∧ u.f5.length ≤ d5 from ⟨yJ, yL⟩)
      have zm := Aside0.mk yQ
      have zn := Aside0.mk yR
      have yU := Aside0.mk yK
      have yV := Aside0.mk yM
      have q0 : (0 ≤ (q : Int)) = True := eq_true (by omega)
      have q1 : ((q : Int) < (laF.length : Int)) = True := eq_true (by omega)
      have q2 : (q < laF.length) = True := eq_true hqn
      clear hl4 yQ hl5 yR yJ yK yL yM hu hv hOc hqn hq hpos hz hll
      try go_wp2
      refine iE (n := 14) (S := fun w' => w'.heap[ada.block]? = wr.heap[ada.block]? ∧ w'.heap[adb.block]? = wr.heap[adb.block]?) (ds := [13]) #[false, false, false, false, false, false, false, false, false, false, false, false, false, false] (by kernel_rfl) rfl rfl ⟨rfl, rfl⟩ (fun hHeld => ?_)
      refine fB aZ.wV aZ.vS (fun HT_ HW_ => ?_)
      replace HO := Aside0.mk (HO.out.below (dQ (Below.refl _ _)))
      have HD0 := Aside0.mk (show ∀ k : Nat, wr.drew.heap[k]? = wr.heap[k]? from fun _ => rfl)
      generalize wr.drew = wd at HO HD0 hHeld ⊢
      refine bE (i := 0) (N := some 146) (v := ?_) (a' := ?_) #[true, false, false, false, false, false, false, false, false, false, false, false, false, false] rfl rfl (bg HT_.out (by kernel_rfl)) (fun _ _ _ h => h) (Or.inl ⟨by rfl, ?_⟩) ?_ ?_
      rotate_left
      · intro w'
        go_simp
        with_reducible rfl
      rotate_left
      · simp only [Act.put, List.setIfInBounds_toArray, List.set_cons_zero, List.set_cons_succ, aT, aU]
        rfl
      refine bE (i := 1) (N := some 147) (v := ?_) (a' := ?_) #[true, true, false, false, false, false, false, false, false, false, false, false, false, false] rfl rfl (bg HT_.out (by kernel_rfl)) (fun _ _ _ h => h) (Or.inl ⟨by rfl, ?_⟩) ?_ ?_
      rotate_left
      · intro w'
        go_simp
        with_reducible rfl
      rotate_left
      · simp only [Act.put, List.setIfInBounds_toArray, List.set_cons_zero, List.set_cons_succ, aT, aU]
        rfl
      refine bE (i := 2) (N := some 148) (v := ?_) (a' := ?_) #[true, true, true, false, false, false, false, false, false, false, false, false, false, false] rfl rfl (bg HT_.out (by kernel_rfl)) (fun _ _ _ h => h) (Or.inl ⟨by rfl, ?_⟩) ?_ ?_
      rotate_left
      · intro w'
        go_simp
        with_reducible rfl
      rotate_left
      · simp only [Act.put, List.setIfInBounds_toArray, List.set_cons_zero, List.set_cons_succ, aT, aU]
        rfl
      refine bE (i := 3) (N := some 149) (v := ?_) (a' := ?_) #[true, true, true, true, false, false, false, false, false, false, false, false, false, false] rfl rfl (bg HT_.out (by kernel_rfl)) (fun _ _ _ h => h) (Or.inl ⟨by rfl, ?_⟩) ?_ ?_
      rotate_left
      · intro w'
        go_simp
        with_reducible rfl
      rotate_left
      · simp only [Act.put, List.setIfInBounds_toArray, List.set_cons_zero, List.set_cons_succ, aT, aU]
        rfl
      refine bE (i := 4) (N := some 150) (v := ?_) (a' := ?_) #[true, true, true, true, true, false, false, false, false, false, false, false, false, false] rfl rfl (bg HT_.out (by kernel_rfl)) (fun _ _ _ h => h) (Or.inl ⟨by rfl, ?_⟩) ?_ ?_
      rotate_left
      · intro w'
        go_simp
        with_reducible rfl
      rotate_left
      · simp only [Act.put, List.setIfInBounds_toArray, List.set_cons_zero, List.set_cons_succ, aT, aU]
        rfl
      refine bE (i := 6) (N := some 152) (v := ?_) (a' := ?_) #[true, true, true, true, true, false, true, false, false, false, false, false, false, false] rfl rfl (bg HT_.out (by kernel_rfl)) (fun _ _ _ h => h) (Or.inl ⟨by rfl, ?_⟩) ?_ ?_
      rotate_left
      · intro w'
        go_simp
        with_reducible rfl
      rotate_left
      · simp only [Act.put, List.setIfInBounds_toArray, List.set_cons_zero, List.set_cons_succ, aT, aU]
        rfl
      refine bE (i := 7) (N := some 153) (v := ?_) (a' := ?_) #[true, true, true, true, true, false, true, true, false, false, false, false, false, false] rfl rfl (bg HT_.out (by kernel_rfl)) (fun _ _ _ h => h) (Or.inl ⟨by rfl, ?_⟩) ?_ ?_
      rotate_left
      · intro w'
        go_simp
        with_reducible rfl
      rotate_left
      · simp only [Act.put, List.setIfInBounds_toArray, List.set_cons_zero, List.set_cons_succ, aT, aU]
        rfl
      refine bE (i := 8) (N := some 154) (v := ?_) (a' := ?_) #[true, true, true, true, true, false, true, true, true, false, false, false, false, false] rfl rfl (bg HT_.out (by kernel_rfl)) (fun _ _ _ h => h) (Or.inl ⟨by rfl, ?_⟩) ?_ ?_
      rotate_left
      · intro w'
        go_simp
        with_reducible rfl
      rotate_left
      · simp only [Act.put, List.setIfInBounds_toArray, List.set_cons_zero, List.set_cons_succ, aT, aU]
        rfl
      refine bE (i := 9) (N := some 155) (v := ?_) (a' := ?_) #[true, true, true, true, true, false, true, true, true, true, false, false, false, false] rfl rfl (bg HT_.out (by kernel_rfl)) (fun _ _ _ h => h) (Or.inl ⟨by rfl, ?_⟩) ?_ ?_
      rotate_left
      · intro w'
        go_simp
        with_reducible rfl
      rotate_left
      · simp only [Act.put, List.setIfInBounds_toArray, List.set_cons_zero, List.set_cons_succ, aT, aU]
        rfl
      refine bE (i := 10) (N := some 156) (v := ?_) (a' := ?_) #[true, true, true, true, true, false, true, true, true, true, true, false, false, false] rfl rfl (bg HT_.out (by kernel_rfl)) (fun _ _ _ h => h) (Or.inl ⟨by rfl, ?_⟩) ?_ ?_
      rotate_left
      · intro w'
        go_simp
        with_reducible rfl
      rotate_left
      · simp only [Act.put, List.setIfInBounds_toArray, List.set_cons_zero, List.set_cons_succ, aT, aU]
        rfl
      refine dI (i := 5) (N := some 151) (v := ?_) (a' := ?_) #[true, true, true, true, true, true, true, true, true, true, true, false, false, false] rfl rfl (bU HT_.out HW_.out (by kernel_rfl)) (fun _ _ _ h => h) (Or.inl ⟨by rfl, ?_⟩) hHeld ?_ ?_
      rotate_left
      · rintro w' ⟨s0, s1⟩
        have e0 := j5 s0 yc
        have e1 := dN s0 yg
        have e2 := dN s0 yh
        have e3 := dN s0 yj
        have e4 := dN s0 yt
        have e5 := dN s0 yu
        have b0 := j5 s1 xU
        have b1 := dN s1 xV
        have b2 := dN s1 xW
        have b3 := dN s1 xX
        have b4 := dN s1 xY
        have b5 := dN s1 xZ
        go_simp
        with_reducible rfl
      rotate_left
      · simp only [Act.put, List.setIfInBounds_toArray, List.set_cons_zero, List.set_cons_succ, aT, aU]
        rfl
      refine dI (i := 11) (N := some 157) (v := ?_) (a' := ?_) #[true, true, true, true, true, true, true, true, true, true, true, true, false, false] rfl rfl (bU HT_.out HW_.out (by kernel_rfl)) (fun _ _ _ h => h) (Or.inl ⟨by rfl, ?_⟩) hHeld ?_ ?_
      rotate_left
      · rintro w' ⟨s0, s1⟩
        have e0 := j5 s0 yc
        have e1 := dN s0 yg
        have e2 := dN s0 yh
        have e3 := dN s0 yj
        have e4 := dN s0 yt
        have e5 := dN s0 yu
        have b0 := j5 s1 xU
        have b1 := dN s1 xV
        have b2 := dN s1 xW
        have b3 := dN s1 xX
        have b4 := dN s1 xY
        have b5 := dN s1 xZ
        go_simp
        with_reducible rfl
      rotate_left
      · simp only [Act.put, List.setIfInBounds_toArray, List.set_cons_zero, List.set_cons_succ, aT, aU]
        rfl
      refine fM (i := 12) (N := none) #[true, true, true, true, true, true, true, true, true, true, true, true, true, false] rfl rfl (dx HT_.out (by kernel_rfl)) (by decide) (fun K hK => ?_)
      have z0 : wd.cell? ⟨g2,0,none⟩ = some (.int .i64 0) := (ah HO.out.h2 0).trans rfl
      have z1 : wd.cell? ⟨g2,1,none⟩ = some (.bool false) := (ah HO.out.h2 1).trans rfl
      have z2 : wd.cell? ⟨g2,2,none⟩ = some (.int .i64 0) := (ah HO.out.h2 2).trans rfl
      have z3 : wd.cell? ⟨g2,3,none⟩ = some (.string (⟨#[]⟩ : ByteArray)) := (ah HO.out.h2 3).trans rfl
      have z4 : wd.cell? ⟨g2,4,none⟩ = some (.slice none 0 0) := (ah HO.out.h2 4).trans rfl
      have z5 : wd.cell? ⟨g2,5,none⟩ = some (.slice none 0 0) := (ah HO.out.h2 5).trans rfl
      have f0 := aj HO.out.h2 0
      have f1 := aj HO.out.h2 1
      have f2 := aj HO.out.h2 2
      have f3 := aj HO.out.h2 3
      have f4 := aj HO.out.h2 4
      have f5 := aj HO.out.h2 5
      refine ku (w1 := ?_) (by rfl) rfl ?_ ?_
      rotate_left
      · go_simp
        rfl
      clear z0 f0 z1 f1 z2 f2 z3 f3 z4 f4 z5 f5
      obtain ⟨yN, e24, zI, yH, yF, zB⟩ := lX (.int .i64 v.f0) (.bool v.f1) (.int .i64 v.f2) (.string v.f3) (.slice A4 v.f4.length c4) (.slice A5 v.f5.length c5) HO.out.b HO.out.h2 HO.out.e2
      rw [e24]
      have zD := Aside0.mk zI
      have Cv := Aside0.mk yH
      have yY := Aside0.mk (show ∀ k : Nat, k ≠ g2 → yN.heap[k]? = wr.heap[k]? from fun k hk => (yF k hk).trans (HD0.out k))
      have yB := Aside0.mk ((yF g3 NE.out.symm).trans HO.out.h3)
      clear e24 zI yH yF zB
      refine hK.out _ _ ⟨yY.out _ Bp.out.1, yY.out _ Bp.out.2⟩ (fun hHeld => ?_)
      clear hK K
      refine lS (i := 13) (N := none) #[true, true, true, true, true, true, true, true, true, true, true, true, true, true] rfl rfl (dx HT_.out (by kernel_rfl)) (by decide) (fun K hK => ?_)
      have z0 : yN.cell? ⟨g3,0,none⟩ = some (.int .i64 0) := (ah yB.out 0).trans rfl
      have z1 : yN.cell? ⟨g3,1,none⟩ = some (.bool false) := (ah yB.out 1).trans rfl
      have z2 : yN.cell? ⟨g3,2,none⟩ = some (.int .i64 0) := (ah yB.out 2).trans rfl
      have z3 : yN.cell? ⟨g3,3,none⟩ = some (.string (⟨#[]⟩ : ByteArray)) := (ah yB.out 3).trans rfl
      have z4 : yN.cell? ⟨g3,4,none⟩ = some (.slice none 0 0) := (ah yB.out 4).trans rfl
      have z5 : yN.cell? ⟨g3,5,none⟩ = some (.slice none 0 0) := (ah yB.out 5).trans rfl
      have f0 := aj yB.out 0
      have f1 := aj yB.out 1
      have f2 := aj yB.out 2
      have f3 := aj yB.out 3
      have f4 := aj yB.out 4
      have f5 := aj yB.out 5
      refine ku (w1 := ?_) (by rfl) rfl ?_ ?_
      rotate_left
      · go_simp
        rfl
      clear z0 f0 z1 f1 z2 f2 z3 f3 z4 f4 z5 f5
      obtain ⟨Cu, e25, zJ, yI, yG, zC⟩ := lX (.int .i64 u.f0) (.bool u.f1) (.int .i64 u.f2) (.string u.f3) (.slice B4 u.f4.length d4) (.slice B5 u.f5.length d5) Cv.out yB.out HO.out.e3
      rw [e25]
      have AV := Aside0.mk zJ
      have Cw := Aside0.mk yI
      have zK := Aside0.mk yG
      replace zD := Aside0.mk ((yG g2 NE.out).trans zD.out)
      clear e25 zJ yI yG zC
      refine hK.out _ _ ?_
      clear hK K
      refine jh (gL HT_.out (by kernel_rfl)) ?_
      try go_wp2
      refine bodyPost_ret (mD rfl _ _ g2 g3 29 33 #[.int .i64 v.f0, .bool v.f1, .int .i64 v.f2, .string v.f3, .slice A4 v.f4.length c4, .slice A5 v.f5.length c5] #[.int .i64 u.f0, .bool u.f1, .int .i64 u.f2, .string u.f3, .slice B4 u.f4.length d4, .slice B5 u.f5.length d5] (0,0) (0,0) _ _ rfl zD.out Tryd.underlying29 rfl (by kernel_rfl) rfl AV.out Tryd.underlying33 rfl (by kernel_rfl)) rfl ?_
      have hu := HU.out
      subst hu
      rw [HVE.out]
      exact ⟨_, _, _, _, rfl, qH HVL.out.1 zm.out yY.out zK.out, qH HVL.out.2 zn.out yY.out zK.out, qH HUL.out.1 yU.out yY.out zK.out, qH HUL.out.2 yV.out yY.out zK.out, Cw.out⟩
end Go.Proofs.YtnkkbiabloodaaaDoor.GVa
