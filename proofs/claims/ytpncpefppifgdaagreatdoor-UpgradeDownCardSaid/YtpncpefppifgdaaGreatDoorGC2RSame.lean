/- The document's Same of states of version 2: its contract, in terms of plain functions. No conditions beside those stated. -/
import Derived.Test.YtpncpefppifgdaaGreatDoorGUtx0
import Derived.BigRegion
import Derived.Deep.DeepCutAuto
namespace Go.Proofs.YtpncpefppifgdaaGreatDoor.GUt
open Go.RowKit Go.Proofs.YtpncpefppifgdaaGreatDoorW.PrintWords Go.Proofs.YtpncpefppifgdaaGreatDoorW.PrintLast Go.Proofs.YtpncpefppifgdaaGreatDoorW.PrintMore
set_option linter.unusedVariables false
theorem zM (d : Nat) (w : World) (x0 y0 : ByteArray) (x1 y1 : ByteArray) :
    (Op.equalIn (d + 2) 89 (.agg #[.string x0, .string x1]) (.agg #[.string y0, .string y1])).run Tryz.prog w = .ok (x0.toList == y0.toList && (x1.toList == y1.toList)) w := by
  refine rR Tryz.underlying89 (by kernel_rfl) ?_
  refine oC (by rfl) (by go_simp; rfl) (by go_simp; rfl) (by go_simp) ?_
  exact oz (by rfl) (by go_simp; rfl) (by go_simp; rfl) (by go_simp)
attribute [local go_sem high] zM
theorem lS {W : World} {a : Addr} {v : Value} (h : W.cell? a = some v) : ∀ o, (W.alloc o).cell? a = some v := fun o => (((Below.refl W.heap.size W).alloc (Nat.le_refl _) o).cell (World.block_lt_of_cell? W _ h)).trans h
theorem mQ {W : World} {a : Addr} {v : Value} (h : W.cell? a = some v) : ∀ o o', ((W.alloc o).alloc o').cell? a = some v := fun o o' => lS (lS h o) o'
theorem new2 (W : World) (o o' : Obj) : ((W.alloc o).alloc o').heap[W.heap.size + 1]? = some o' := by
  have := heap_alloc_new (W.alloc o) o'
  rw [World.size_alloc] at this
  exact this
theorem jS {W : World} {g : Nat} {o : Obj} (h : W.heap[g]? = some o) : ∀ o', (W.alloc o').heap[g]? = some o := fun o' => (Below.heap_alloc W o' g (Array.getElem?_eq_some_iff.1 h).1).trans h
def zN (p q : S89) : Bool := p.f0.toList == q.f0.toList && (p.f1.toList == q.f1.toList)
def oM : List S89 → List S89 → Bool
  | [], [] => true
  | p :: ps, q :: qs => zN p q && oM ps qs
  | _, _ => false
theorem rz : ∀ l m, oM l m = true → l.length = m.length
  | [], [], _ => rfl
  | p :: ps, q :: qs, h => by
    rw [oM, Bool.and_eq_true] at h
    rw [List.length_cons, List.length_cons, rz ps qs h.2]
  | [], _ :: _, h => by cases h
  | _ :: _, [], h => by cases h
def zO (p q : S88) : Bool := p.f0.toList == q.f0.toList && (p.f1.toList == q.f1.toList && (p.f2.toList == q.f2.toList && (p.f3 == q.f3 && (p.f4 == q.f4 && oM p.f5 q.f5))))
def oN : List S88 → List S88 → Bool
  | [], [] => true
  | p :: ps, q :: qs => zO p q && oN ps qs
  | _, _ => false
theorem rA : ∀ l m, oN l m = true → l.length = m.length
  | [], [], _ => rfl
  | p :: ps, q :: qs, h => by
    rw [oN, Bool.and_eq_true] at h
    rw [List.length_cons, List.length_cons, rA ps qs h.2]
  | [], _ :: _, h => by cases h
  | _ :: _, [], h => by cases h
def cB.f (BD : Int) (Bw : List S88) (BF : Int) (Bz : List S88) : Option Bool := some (BD == BF && oN Bw Bz)
set_option maxHeartbeats 8000000 in
set_option maxRecDepth 100000 in
theorem cB.calls (BD : Int) (BI : Option Addr) (BG : Nat) (Bw : List S88) (BF : Int) (BJ : Option Addr) (BH : Nat) (Bz : List S88) (r : Bool) (w : World) (BN : Kd.C k88 w BI Bw.length Bw) (Cb : Bw.length ≤ BG) (BQ : Kd.C k88 w BJ Bz.length Bz) (Cc : Bz.length ≤ BH) (h : cB.f BD Bw BF Bz = some r) :
    Calls Tryz.prog 11 #[.agg #[.int .u64 BD, .slice BI Bw.length BG], .agg #[.int .u64 BF, .slice BJ Bz.length BH]] w fun e w' => e = .returned (.bool r) ∧ Below w.heap.size w w' := by
  have hr := Option.some.inj h
  have bx0 := (Below.heap_alloc (w.alloc (.cells #[.int .u64 BD, .slice BI Bw.length BG] 39)) (.cells #[.int .u64 BF, .slice BJ Bz.length BH] 39) w.heap.size (by simp)).trans (heap_alloc_new w _)
  have BU := heap_alloc_new (w.alloc (.cells #[.int .u64 BD, .slice BI Bw.length BG] 39)) (.cells #[.int .u64 BF, .slice BJ Bz.length BH] 39)
  rw [World.size_alloc] at BU
  have BX := Aside0.mk bx0
  have BY := Aside0.mk BU
  have BB := Aside0.mk (((Below.refl _ w).alloc (Nat.le_refl _) (.cells #[.int .u64 BD, .slice BI Bw.length BG] 39)).alloc (by simp) (.cells #[.int .u64 BF, .slice BJ Bz.length BH] 39))
  clear bx0 BU h
  go_enter Tryz.func11, Tryz.ntmps11
  by_cases he : BD = BF
  · have hc : (BD != BF) = false := by rw [he]; simp
    rw [beq_iff_eq.2 he, Bool.true_and] at hr
    by_cases hlen : Bw.length = Bz.length
    · have hne : ((Bw.length : Int) != (Bz.length : Int)) = false := by rw [hlen]; simp
      have HL := Aside0.mk hlen
      have Cj := Aside0.mk he
      clear hlen he
      go_wp2
      go_loopg [5] Bw.length (fun kq v5 w' => ∃ (i : Nat), v5 = .int .i64 (i : Int) ∧ Aside0 (i + kq = Bw.length) ∧ Aside0 (oN (Bw.drop i) (Bz.drop i) = r) ∧ Aside0 (w'.heap[w.heap.size]? = some (.cells #[.int .u64 BD, .slice BI Bw.length BG] 39 (0, 0))) ∧ Aside0 (w'.heap[w.heap.size + 1]? = some (.cells #[.int .u64 BF, .slice BJ Bz.length BH] 39 (0, 0))) ∧ Aside0 (Below w.heap.size w w'))
      case atStart => exact ⟨0, rfl, ⟨by omega⟩, ⟨hr⟩, BX, BY, BB⟩
      case round =>
        clear BX BY BB hr
        obtain ⟨i, rfl, hi, hE, bx, by_, B⟩ := hrel
        have x1 := (ah bx.out 1).trans rfl
        have y1 := (ah by_.out 1).trans rfl
        cases gk with
        | zero =>
          have hend : decide ((i : Int) < (Bw.length : Int)) = false := decide_eq_false (by have := hi.out; omega)
          have BR : decide (i < Bw.length) = false := decide_eq_false (by have := hi.out; omega)
          have BS : (i < Bw.length) = False := eq_false (by have := hi.out; omega)
          have hE' := hE.out
          rw [List.drop_eq_nil_of_le (by have := hi.out; omega), List.drop_eq_nil_of_le (by have := hi.out; have := HL.out; omega)] at hE'
          have hr : true = r := hE'
          subst hr
          go_wp2
          go_ret
          exact ⟨rfl, B.out⟩
        | succ k1 =>
          have hlt : i < Bw.length := by have := hi.out; omega
          have c1 : decide ((i : Int) < (Bw.length : Int)) = true := decide_eq_true (by omega)
          have p1 : 0 ≤ (i : Int) := by omega
          have q1 : (i : Int) < (Bw.length : Int) := by omega
          have q2 : (i : Int) < (Bz.length : Int) := by have := HL.out; omega
          obtain ⟨ad, A5, c5, e, hx0, hx1, hx2, hx3, hx4, hx5, _, k5⟩ := vW BN (i : Int) p1 q1
          cases e
          obtain ⟨bd, B5, d5, e, hy0, hy1, hy2, hy3, hy4, BO, _, m5⟩ := vW BQ (i : Int) p1 q2
          cases e
          replace hx0 := (B.out.cell (World.block_lt_of_cell? w _ hx0)).trans hx0
          replace hx1 := (B.out.cell (World.block_lt_of_cell? w _ hx1)).trans hx1
          replace hx2 := (B.out.cell (World.block_lt_of_cell? w _ hx2)).trans hx2
          replace hx3 := (B.out.cell (World.block_lt_of_cell? w _ hx3)).trans hx3
          replace hx4 := (B.out.cell (World.block_lt_of_cell? w _ hx4)).trans hx4
          replace hx5 := (B.out.cell (World.block_lt_of_cell? w _ hx5)).trans hx5
          replace hy0 := (B.out.cell (World.block_lt_of_cell? w _ hy0)).trans hy0
          replace hy1 := (B.out.cell (World.block_lt_of_cell? w _ hy1)).trans hy1
          replace hy2 := (B.out.cell (World.block_lt_of_cell? w _ hy2)).trans hy2
          replace hy3 := (B.out.cell (World.block_lt_of_cell? w _ hy3)).trans hy3
          replace hy4 := (B.out.cell (World.block_lt_of_cell? w _ hy4)).trans hy4
          replace BO := (B.out.cell (World.block_lt_of_cell? w _ BO)).trans BO
          simp only [Int.toNat_natCast] at hx0 hx1 hx2 hx3 hx4 hx5 hy0 hy1 hy2 hy3 hy4 BO
          have hE1 := hE.out
          have hlt1 : i < Bz.length := by rw [← HL.out]; exact hlt
          rw [List.drop_eq_getElem_cons hlt, List.drop_eq_getElem_cons hlt1, show Bw[i] = iX Bw (i : Int) by simp [iX, List.getElem?_eq_getElem hlt], show Bz[i] = iX Bz (i : Int) by simp [iX, List.getElem?_eq_getElem hlt1], oN] at hE1
          obtain ⟨p, hp⟩ : ∃ p, iX Bw (i : Int) = p := ⟨_, rfl⟩
          obtain ⟨q, hq⟩ : ∃ q, iX Bz (i : Int) = q := ⟨_, rfl⟩
          simp only [hp] at hx0 hx1 hx2 hx3 hx4 hx5 k5 hE1
          simp only [hq] at hy0 hy1 hy2 hy3 hy4 BO m5 hE1
          clear hp hq
          replace p1 := eq_true p1
          replace q1 := eq_true q1
          replace q2 := eq_true q2
          have q3 : (i < Bw.length) = True := eq_true hlt
          have q4 : (i < Bz.length) = True := eq_true hlt1
          have K5 := Aside0.mk k5
          have M5 := Aside0.mk m5
          have Ce := Aside0.mk hE1
          have hwv : Value.int .i64 (wrap64 ((i : Int) + 1)) = Value.int .i64 ((i + 1 : Nat) : Int) := by have := Kd.jX BN; rw [bW (by omega) (by omega)]; rfl
          have HWV := Aside0.mk hwv
          have hnx : Aside0 (i + 1 + k1 = Bw.length) := ⟨by have := hi.out; omega⟩
          clear hE1 k5 m5 hE hwv
          have x1a := lS x1
          have x1b := mQ x1
          have y1a := lS y1
          have y1b := mQ y1
          have hx0a := lS hx0
          have hx0b := mQ hx0
          have hx1a := lS hx1
          have hx1b := mQ hx1
          have hx2a := lS hx2
          have hx2b := mQ hx2
          have hx3a := lS hx3
          have hx3b := mQ hx3
          have hx4a := lS hx4
          have hx4b := mQ hx4
          have hx5a := lS hx5
          have hx5b := mQ hx5
          have hy0a := lS hy0
          have hy0b := mQ hy0
          have hy1a := lS hy1
          have hy1b := mQ hy1
          have hy2a := lS hy2
          have hy2b := mQ hy2
          have hy3a := lS hy3
          have hy3b := mQ hy3
          have hy4a := lS hy4
          have hy4b := mQ hy4
          have hy5a := lS BO
          have hy5b := mQ BO
          go_upto_region 6 with (fail)
          go_cut [6, 7] (fun v6 v7 w' => ∃ (g6 g7 : Nat), v6 = .pointer (some ⟨g6, 0, none⟩) ∧ v7 = .pointer (some ⟨g7, 0, none⟩) ∧ Aside0 (w'.heap[g6]? = some (.cells #[.string p.f0, .string p.f1, .string p.f2, .int .u8 p.f3, .int .u16 p.f4, .slice A5 p.f5.length c5] 88 (0, 0))) ∧ Aside0 (w'.heap[g7]? = some (.cells #[.string q.f0, .string q.f1, .string q.f2, .int .u8 q.f3, .int .u16 q.f4, .slice B5 q.f5.length d5] 88 (0, 0))) ∧ Aside0 (w'.heap[w.heap.size]? = some (.cells #[.int .u64 BD, .slice (some ad) Bw.length BG] 39 (0, 0))) ∧ Aside0 (w'.heap[w.heap.size + 1]? = some (.cells #[.int .u64 BF, .slice (some bd) Bz.length BH] 39 (0, 0))) ∧ Aside0 (Below w.heap.size w w'))
          case first =>
            go_region
            · have bp := Aside0.mk (show (World.drew ((wr.alloc (.cells #[.string p.f0, .string p.f1, .string p.f2, .int .u8 p.f3, .int .u16 p.f4, .slice A5 p.f5.length c5] 88)).alloc (.cells #[.string q.f0, .string q.f1, .string q.f2, .int .u8 q.f3, .int .u16 q.f4, .slice B5 q.f5.length d5] 88))).heap[wr.heap.size]? = some (.cells #[.string p.f0, .string p.f1, .string p.f2, .int .u8 p.f3, .int .u16 p.f4, .slice A5 p.f5.length c5] 88 (0, 0)) from (Below.heap_alloc (wr.alloc (.cells #[.string p.f0, .string p.f1, .string p.f2, .int .u8 p.f3, .int .u16 p.f4, .slice A5 p.f5.length c5] 88)) (.cells #[.string q.f0, .string q.f1, .string q.f2, .int .u8 q.f3, .int .u16 q.f4, .slice B5 q.f5.length d5] 88) wr.heap.size (by simp)).trans (heap_alloc_new wr _))
              have bq := Aside0.mk (show (World.drew ((wr.alloc (.cells #[.string p.f0, .string p.f1, .string p.f2, .int .u8 p.f3, .int .u16 p.f4, .slice A5 p.f5.length c5] 88)).alloc (.cells #[.string q.f0, .string q.f1, .string q.f2, .int .u8 q.f3, .int .u16 q.f4, .slice B5 q.f5.length d5] 88))).heap[wr.heap.size + 1]? = some (.cells #[.string q.f0, .string q.f1, .string q.f2, .int .u8 q.f3, .int .u16 q.f4, .slice B5 q.f5.length d5] 88 (0, 0)) from new2 wr (.cells #[.string p.f0, .string p.f1, .string p.f2, .int .u8 p.f3, .int .u16 p.f4, .slice A5 p.f5.length c5] 88) (.cells #[.string q.f0, .string q.f1, .string q.f2, .int .u8 q.f3, .int .u16 q.f4, .slice B5 q.f5.length d5] 88))
              have BK := Aside0.mk (show (World.drew ((wr.alloc (.cells #[.string p.f0, .string p.f1, .string p.f2, .int .u8 p.f3, .int .u16 p.f4, .slice A5 p.f5.length c5] 88)).alloc (.cells #[.string q.f0, .string q.f1, .string q.f2, .int .u8 q.f3, .int .u16 q.f4, .slice B5 q.f5.length d5] 88))).heap[w.heap.size]? = some (.cells #[.int .u64 BD, .slice (some ad) Bw.length BG] 39 (0, 0)) from jS (jS bx.out _) _)
              have BL := Aside0.mk (show (World.drew ((wr.alloc (.cells #[.string p.f0, .string p.f1, .string p.f2, .int .u8 p.f3, .int .u16 p.f4, .slice A5 p.f5.length c5] 88)).alloc (.cells #[.string q.f0, .string q.f1, .string q.f2, .int .u8 q.f3, .int .u16 q.f4, .slice B5 q.f5.length d5] 88))).heap[w.heap.size + 1]? = some (.cells #[.int .u64 BF, .slice (some bd) Bz.length BH] 39 (0, 0)) from jS (jS by_.out _) _)
              have B2 := Aside0.mk (bL ((B.out.alloc B.out.size (.cells #[.string p.f0, .string p.f1, .string p.f2, .int .u8 p.f3, .int .u16 p.f4, .slice A5 p.f5.length c5] 88)).alloc (by have := B.out.size; simp; omega) (.cells #[.string q.f0, .string q.f1, .string q.f2, .int .u8 q.f3, .int .u16 q.f4, .slice B5 q.f5.length d5] 88)))
              go_wp2
              go_meet
              exact ⟨wr.heap.size, wr.heap.size + 1, rfl, rfl, bp, bq, BK, BL, B2⟩
            · have bp := Aside0.mk (show (World.drew ((wr.alloc (.cells #[.string q.f0, .string q.f1, .string q.f2, .int .u8 q.f3, .int .u16 q.f4, .slice B5 q.f5.length d5] 88)).alloc (.cells #[.string p.f0, .string p.f1, .string p.f2, .int .u8 p.f3, .int .u16 p.f4, .slice A5 p.f5.length c5] 88))).heap[wr.heap.size + 1]? = some (.cells #[.string p.f0, .string p.f1, .string p.f2, .int .u8 p.f3, .int .u16 p.f4, .slice A5 p.f5.length c5] 88 (0, 0)) from new2 wr (.cells #[.string q.f0, .string q.f1, .string q.f2, .int .u8 q.f3, .int .u16 q.f4, .slice B5 q.f5.length d5] 88) (.cells #[.string p.f0, .string p.f1, .string p.f2, .int .u8 p.f3, .int .u16 p.f4, .slice A5 p.f5.length c5] 88))
              have bq := Aside0.mk (show (World.drew ((wr.alloc (.cells #[.string q.f0, .string q.f1, .string q.f2, .int .u8 q.f3, .int .u16 q.f4, .slice B5 q.f5.length d5] 88)).alloc (.cells #[.string p.f0, .string p.f1, .string p.f2, .int .u8 p.f3, .int .u16 p.f4, .slice A5 p.f5.length c5] 88))).heap[wr.heap.size]? = some (.cells #[.string q.f0, .string q.f1, .string q.f2, .int .u8 q.f3, .int .u16 q.f4, .slice B5 q.f5.length d5] 88 (0, 0)) from (Below.heap_alloc (wr.alloc (.cells #[.string q.f0, .string q.f1, .string q.f2, .int .u8 q.f3, .int .u16 q.f4, .slice B5 q.f5.length d5] 88)) (.cells #[.string p.f0, .string p.f1, .string p.f2, .int .u8 p.f3, .int .u16 p.f4, .slice A5 p.f5.length c5] 88) wr.heap.size (by simp)).trans (heap_alloc_new wr _))
              have BK := Aside0.mk (show (World.drew ((wr.alloc (.cells #[.string q.f0, .string q.f1, .string q.f2, .int .u8 q.f3, .int .u16 q.f4, .slice B5 q.f5.length d5] 88)).alloc (.cells #[.string p.f0, .string p.f1, .string p.f2, .int .u8 p.f3, .int .u16 p.f4, .slice A5 p.f5.length c5] 88))).heap[w.heap.size]? = some (.cells #[.int .u64 BD, .slice (some ad) Bw.length BG] 39 (0, 0)) from jS (jS bx.out _) _)
              have BL := Aside0.mk (show (World.drew ((wr.alloc (.cells #[.string q.f0, .string q.f1, .string q.f2, .int .u8 q.f3, .int .u16 q.f4, .slice B5 q.f5.length d5] 88)).alloc (.cells #[.string p.f0, .string p.f1, .string p.f2, .int .u8 p.f3, .int .u16 p.f4, .slice A5 p.f5.length c5] 88))).heap[w.heap.size + 1]? = some (.cells #[.int .u64 BF, .slice (some bd) Bz.length BH] 39 (0, 0)) from jS (jS by_.out _) _)
              have B2 := Aside0.mk (bL ((B.out.alloc B.out.size (.cells #[.string q.f0, .string q.f1, .string q.f2, .int .u8 q.f3, .int .u16 q.f4, .slice B5 q.f5.length d5] 88)).alloc (by have := B.out.size; simp; omega) (.cells #[.string p.f0, .string p.f1, .string p.f2, .int .u8 p.f3, .int .u16 p.f4, .slice A5 p.f5.length c5] 88)))
              go_wp2
              go_meet
              exact ⟨wr.heap.size + 1, wr.heap.size, rfl, rfl, bp, bq, BK, BL, B2⟩
          case rest =>
            clear x1 x1a x1b y1 y1a y1b hx0 hx0a hx0b hx1 hx1a hx1b hx2 hx2a hx2b hx3 hx3a hx3b hx4 hx4a hx4b hx5 hx5a hx5b hy0 hy0a hy0b hy1 hy1a hy1b hy2 hy2a hy2b hy3 hy3a hy3b hy4 hy4a hy4b BO hy5a hy5b bx by_ B
            obtain ⟨g6, g7, rfl, rfl, bp, bq, BK, BL, B2⟩ := hcut
            have c0 := (ah bp.out 0).trans rfl
            have Ci := (ah bp.out 1).trans rfl
            have c2 := (ah bp.out 2).trans rfl
            have c3 := (ah bp.out 3).trans rfl
            have c4 := (ah bp.out 4).trans rfl
            have Cg := (ah bp.out 5).trans rfl
            have d0 := (ah bq.out 0).trans rfl
            have d1 := (ah bq.out 1).trans rfl
            have d2 := (ah bq.out 2).trans rfl
            have d3 := (ah bq.out 3).trans rfl
            have d4 := (ah bq.out 4).trans rfl
            have Ch := (ah bq.out 5).trans rfl
            have hE1 := Ce.out
            unfold zO at hE1
            cases e0 : (p.f0.toList == q.f0.toList) with
            | false =>
              have n0 : (p.f0.toList != q.f0.toList) = true := by unfold bne; rw [e0]; rfl
              rw [e0] at hE1
              have hr : false = r := hE1
              subst hr
              go_wp2; go_ret; exact ⟨rfl, B2.out⟩
            | true =>
            have n0 : (p.f0.toList != q.f0.toList) = false := by unfold bne; rw [e0]; rfl
            rw [e0, Bool.true_and] at hE1
            cases e1 : (p.f1.toList == q.f1.toList) with
            | false =>
              have n1 : (p.f1.toList != q.f1.toList) = true := by unfold bne; rw [e1]; rfl
              rw [e1] at hE1
              have hr : false = r := hE1
              subst hr
              go_wp2; go_ret; exact ⟨rfl, B2.out⟩
            | true =>
            have n1 : (p.f1.toList != q.f1.toList) = false := by unfold bne; rw [e1]; rfl
            rw [e1, Bool.true_and] at hE1
            cases e2 : (p.f2.toList == q.f2.toList) with
            | false =>
              have n2 : (p.f2.toList != q.f2.toList) = true := by unfold bne; rw [e2]; rfl
              rw [e2] at hE1
              have hr : false = r := hE1
              subst hr
              go_wp2; go_ret; exact ⟨rfl, B2.out⟩
            | true =>
            have n2 : (p.f2.toList != q.f2.toList) = false := by unfold bne; rw [e2]; rfl
            rw [e2, Bool.true_and] at hE1
            cases e3 : (p.f3 == q.f3) with
            | false =>
              have n3 : (p.f3 != q.f3) = true := by unfold bne; rw [e3]; rfl
              rw [e3] at hE1
              have hr : false = r := hE1
              subst hr
              go_wp2; go_ret; exact ⟨rfl, B2.out⟩
            | true =>
            have n3 : (p.f3 != q.f3) = false := by unfold bne; rw [e3]; rfl
            rw [e3, Bool.true_and] at hE1
            cases e4 : (p.f4 == q.f4) with
            | false =>
              have n4 : (p.f4 != q.f4) = true := by unfold bne; rw [e4]; rfl
              rw [e4] at hE1
              have hr : false = r := hE1
              subst hr
              go_wp2; go_ret; exact ⟨rfl, B2.out⟩
            | true =>
            have n4 : (p.f4 != q.f4) = false := by unfold bne; rw [e4]; rfl
            rw [e4, Bool.true_and] at hE1
            by_cases hl5 : p.f5.length = q.f5.length
            case neg =>
              have n5 : ((p.f5.length : Int) != (q.f5.length : Int)) = true := by simp; omega
              have hq : oM p.f5 q.f5 = false := by
                cases hh : oM p.f5 q.f5 with
                | false => rfl
                | true => exact absurd (rz _ _ hh) hl5
              rw [hq] at hE1
              have hr : false = r := hE1
              subst hr
              go_wp2; go_ret; exact ⟨rfl, B2.out⟩
            case pos =>
            have n5 : ((p.f5.length : Int) != (q.f5.length : Int)) = false := by rw [hl5]; simp
            have BZ := Aside0.mk hl5
            clear hl5 Ce
            go_wp2
            clear c0 Ci c2 c3 c4 Cg d0 d1 d2 d3 d4 Ch
            go_loopg [8] p.f5.length (fun kq v8 w' => ∃ (j : Nat), v8 = .int .i64 (j : Int) ∧ Aside0 (j + kq = p.f5.length) ∧ Aside0 ((oM (p.f5.drop j) (q.f5.drop j) && oN (Bw.drop (i + 1)) (Bz.drop (i + 1))) = r) ∧ Aside0 (w'.heap[g6]? = some (.cells #[.string p.f0, .string p.f1, .string p.f2, .int .u8 p.f3, .int .u16 p.f4, .slice A5 p.f5.length c5] 88 (0, 0))) ∧ Aside0 (w'.heap[g7]? = some (.cells #[.string q.f0, .string q.f1, .string q.f2, .int .u8 q.f3, .int .u16 q.f4, .slice B5 q.f5.length d5] 88 (0, 0))) ∧ Aside0 (w'.heap[w.heap.size]? = some (.cells #[.int .u64 BD, .slice (some ad) Bw.length BG] 39 (0, 0))) ∧ Aside0 (w'.heap[w.heap.size + 1]? = some (.cells #[.int .u64 BF, .slice (some bd) Bz.length BH] 39 (0, 0))) ∧ Aside0 (Below w.heap.size w w'))
            case atStart => exact ⟨0, rfl, ⟨by omega⟩, ⟨hE1⟩, bp, bq, BK, BL, B2⟩
            case round =>
              clear hE1 bp bq BK BL B2
              obtain ⟨j, rfl, hj, hF, bp, bq, BK, BL, B2⟩ := hrel
              have Cg := (ah bp.out 5).trans rfl
              have Ch := (ah bq.out 5).trans rfl
              cases gk with
              | zero =>
                have hend : decide ((j : Int) < (p.f5.length : Int)) = false := decide_eq_false (by have := hj.out; omega)
                have BR : decide (j < p.f5.length) = false := decide_eq_false (by have := hj.out; omega)
                have BS : (j < p.f5.length) = False := eq_false (by have := hj.out; omega)
                have hF' := hF.out
                rw [List.drop_eq_nil_of_le (by have := hj.out; omega), List.drop_eq_nil_of_le (by have := hj.out; have := BZ.out; omega), oM, Bool.true_and] at hF'
                have HF := Aside0.mk hF'
                clear hF'
                go_wp2
                go_roundg k1
                case measure => exact Nat.lt_succ_self k1
                case rel => exact ⟨i + 1, by first | exact HWV.out | rfl, hnx, HF, BK, BL, B2⟩
              | succ k2 =>
                have hjl : j < p.f5.length := by have := hj.out; omega
                have j1 : decide ((j : Int) < (p.f5.length : Int)) = true := decide_eq_true (by omega)
                have s1 : 0 ≤ (j : Int) := by omega
                have t1 : (j : Int) < (p.f5.length : Int) := by omega
                have t2 : (j : Int) < (q.f5.length : Int) := by have := BZ.out; omega
                obtain ⟨ae, e, ha0, ha1⟩ := vU K5.out (j : Int) s1 t1
                cases e
                obtain ⟨be, e, hb0, hb1⟩ := vU M5.out (j : Int) s1 t2
                cases e
                replace ha0 := (B2.out.cell (World.block_lt_of_cell? w _ ha0)).trans ha0
                replace ha1 := (B2.out.cell (World.block_lt_of_cell? w _ ha1)).trans ha1
                replace hb0 := (B2.out.cell (World.block_lt_of_cell? w _ hb0)).trans hb0
                replace hb1 := (B2.out.cell (World.block_lt_of_cell? w _ hb1)).trans hb1
                simp only [Int.toNat_natCast] at ha0 ha1 hb0 hb1
                have BP : j < q.f5.length := by rw [← BZ.out]; exact hjl
                have hF1 := hF.out
                rw [List.drop_eq_getElem_cons hjl, List.drop_eq_getElem_cons BP, show p.f5[j] = kU p.f5 (j : Int) by simp [kU, List.getElem?_eq_getElem hjl], show q.f5[j] = kU q.f5 (j : Int) by simp [kU, List.getElem?_eq_getElem BP], oM] at hF1
                obtain ⟨u, hu⟩ : ∃ u, kU p.f5 (j : Int) = u := ⟨_, rfl⟩
                obtain ⟨v, hv⟩ : ∃ v, kU q.f5 (j : Int) = v := ⟨_, rfl⟩
                simp only [hu] at ha0 ha1 hF1
                simp only [hv] at hb0 hb1 hF1
                clear hu hv
                replace s1 := eq_true s1
                replace t1 := eq_true t1
                replace t2 := eq_true t2
                have s3 : (j < p.f5.length) = True := eq_true hjl
                have s4 : (j < q.f5.length) = True := eq_true BP
                unfold zN at hF1
                have Ca : Value.int .i64 (wrap64 ((j : Int) + 1)) = Value.int .i64 ((j + 1 : Nat) : Int) := by have := Kd.jX K5.out; rw [bW (by omega) (by omega)]; rfl
                have hnx2 : Aside0 (j + 1 + k2 = p.f5.length) := ⟨by have := hj.out; omega⟩
                cases huv : (u.f0.toList == v.f0.toList && (u.f1.toList == v.f1.toList)) with
                | false =>
                  rw [huv] at hF1
                  have hr : false = r := hF1
                  subst hr
                  go_wp2
                  repeat (go_quiet (fail); try go_wp2)
                  go_ret
                  exact ⟨rfl, by repeat (first | exact B2.out | apply bB | apply bL)⟩
                | true =>
                  rw [huv, Bool.true_and] at hF1
                  go_wp2
                  repeat (go_quiet (fail); try go_wp2)
                  go_roundg k2
                  case measure => exact Nat.lt_succ_self k2
                  case rel => exact ⟨j + 1, by first | exact Ca | rfl, hnx2, ⟨hF1⟩, ⟨bp.out⟩, ⟨bq.out⟩, ⟨BK.out⟩, ⟨BL.out⟩, ⟨by repeat (first | exact B2.out | apply bB | apply bL)⟩⟩
    · have hne : ((Bw.length : Int) != (Bz.length : Int)) = true := by simp; omega
      have hf : oN Bw Bz = false := by
        cases hh : oN Bw Bz with
        | false => rfl
        | true => exact absurd (rA _ _ hh) hlen
      rw [hf] at hr
      subst hr
      have HE := Aside0.mk he
      clear he hlen
      go_wp2
      go_ret
      exact ⟨rfl, BB.out⟩
  · have hc : (BD != BF) = true := bne_iff_ne.2 he
    rw [beq_eq_false_iff_ne.2 he, Bool.false_and] at hr
    subst hr
    clear he
    go_wp2
    go_ret
    exact ⟨rfl, BB.out⟩
end Go.Proofs.YtpncpefppifgdaaGreatDoor.GUt
