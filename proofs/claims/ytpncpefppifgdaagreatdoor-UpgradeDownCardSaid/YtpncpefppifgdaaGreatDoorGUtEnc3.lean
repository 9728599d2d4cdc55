/- ckthree.Encode of a state without pods: its contract, in terms of plain functions. No conditions beside those stated. -/
import Derived.Test.YtpncpefppifgdaaGreatDoorCp
import Derived.Test.YtpncpefppifgdaaGreatDoorGUtEnc1
import Derived.Test.YtpncpefppifgdaaGreatDoorGUtStrW
namespace Go.Proofs.YtpncpefppifgdaaGreatDoor.GUt
open Go.RowKit Go.Shelf Go.Proofs.YtpncpefppifgdaaGreatDoorW.PrintWords Go.Proofs.YtpncpefppifgdaaGreatDoorW.PrintLast Go.Proofs.YtpncpefppifgdaaGreatDoorW.PrintMore
set_option linter.unusedVariables false
set_option linter.unusedSimpArgs false
theorem q8 {B : Nat} {w W W1 : World} (h : Below B w W) (hB : B ≤ W.heap.size) (hb : Below W.heap.size W W1) : Below B w W1 := h.trans (hb.mono hB)
def fD.T0 : Bool × List (List Nat × List Nat) := (true, [([], []), ([0], [0]), ([1], [1]), ([], []), ([], []), ([3, 4], [3, 4]), ([2, 5, 5], [2, 5])])
def fD.B0 : List Nat := [0, 1, 3, 0, 0, 24, 63]
theorem fD.Bn : gT .any (opsOf Tryz.f76 0) = fD.T0 := by kernel_rfl
theorem fD.Ay : fO fD.T0.2 fD.B0 = true := by kernel_rfl
set_option maxHeartbeats 4000000 in
set_option maxRecDepth 100000 in
theorem fD.calls (k B b : Nat) (acc p : ByteArray) (n u : Int) (w : World) (hp : bS.f k n u = some p) (h : Lib.IsBuilderF 150 5 B b (Lib.strCells acc) w) (hl : acc.size + p.size ≤ 140737488355328) (hBw : B ≤ w.heap.size) :
    Calls Tryz.prog 76 #[.pointer (some ⟨b, 0, none⟩), .int .i64 n, .int .u64 u] w fun e w' => e = .returned (.tuple #[]) ∧ Lib.IsBuilderF 150 5 B b (Lib.strCells (acc ++ p)) w' ∧ Below B w w' := by
  have HB := Aside0.mk h
  have HW := Aside0.mk (Below.refl B w)
  clear h
  go_enter Tryz.func76, Tryz.ntmps76
  refine gZ (n := 7) (S := fun w' => True) (ds := []) #[O,O,O,O,O,O,O] (by kernel_rfl) rfl rfl (trivial) (fun hHeld => ?_)
  refine eY fD.Bn fD.Ay (fun HT_ HW_ => ?_)
  replace HB := Aside0.mk (kG HB.out (iU (Below.refl _ _)))
  replace HW := Aside0.mk (bL HW.out)
  refine pu_ 0 6 #[I,O,O,O,O,O,O] HT_.out ?_
  refine pu_ 1 7 #[I,I,O,O,O,O,O] HT_.out ?_
  refine pu_ 2 8 #[I,I,I,O,O,O,O] HT_.out ?_
  refine pu_ 3 9 #[I,I,I,I,O,O,O] HT_.out ?_
  refine pu_ 4 10 #[I,I,I,I,I,O,O] HT_.out ?_
  refine fU (i := 5) (N := some 11) #[I,I,I,I,I,I,O] rfl rfl (cO HT_.out (by kernel_rfl)) (by decide) (fun K hK => ?_)
  refine eU Tryz.func67 (by kernel_rfl) rfl #[.int .i64 n, .int .u64 u] (by rfl) rfl rfl (by (try simp only [List.map_toArray, List.map_cons, List.map_nil]); first | done | rfl) ?_
  refine (bS.calls k n u p _ hp).mono ?_
  rintro e w5 ⟨rfl, hb⟩
  refine ⟨_, rfl, ?_⟩
  have HB1 := Aside0.mk (kG HB.out hb)
  have HW1 := Aside0.mk (q8 HW.out hBw hb)
  have BH := Aside0.mk hb.size
  clear hb HB HW
  refine hK.out _ _ (trivial) (fun hHeld => ?_)
  clear hK K
  refine dX (a' := ?_) ?_ ?_
  rotate_left
  · show Act.put _ (some 11) _ = _
    simp only [Act.put, List.setIfInBounds_toArray, List.set_cons_zero, List.set_cons_succ, bO, bR]
    rfl
  refine fU (i := 6) (N := some 12) #[I,I,I,I,I,I,I] rfl rfl (cO HT_.out (by kernel_rfl)) (by decide) (fun K hK => ?_)
  refine eU Tryz.func66 (by kernel_rfl) rfl #[.pointer (some ⟨b, 0, none⟩), .string p] (by rfl) rfl rfl (by (try simp only [List.map_toArray, List.map_cons, List.map_nil]); first | done | rfl) ?_
  refine (BldW.writeString B b (Lib.strCells acc) p _ HB1.out (by simpa [Lib.strCells] using hl) (Nat.le_trans hBw BH.out)).mono ?_
  rintro e w6 ⟨rfl, hat, hbB, hk⟩
  refine ⟨_, rfl, ?_⟩
  have HB2 := Aside0.mk (Or.inr hat : Lib.IsBuilderF 150 5 B b (Lib.strCells acc ++ Lib.strCells p) w6)
  have HW2 := Aside0.mk (HW1.out.trans hbB)
  clear hat hbB hk HB1
  refine hK.out _ _ (trivial) (fun hHeld => ?_)
  clear hK K
  refine dX (a' := ?_) ?_ ?_
  rotate_left
  · show Act.put _ (some 12) _ = _
    simp only [Act.put, List.setIfInBounds_toArray, List.set_cons_zero, List.set_cons_succ, bO, bR]
    rfl
  refine iZ (gD HT_.out (by kernel_rfl)) ?_
  go_wp2
  go_end0
  exact ⟨rfl, by rw [← mY]; exact HB2.out, HW2.out⟩
set_option maxHeartbeats 4000000 in
set_option maxRecDepth 100000 in
theorem zH.calls (a0 : Int) (A1 : Option Addr) (Bw n : Nat) (w : World) (hn : n = 0) :
    Calls Tryz.prog 75 #[.agg #[.int .u64 a0, .slice A1 n Bw]] w fun e w' => e = .returned (.int .i64 0) ∧ Below w.heap.size w w' := by
  have HB := Aside0.mk ((Below.refl _ w).alloc (Nat.le_refl _) (.cells #[.int .u64 a0, .slice A1 n Bw] 51))
  have e1 : decide ((1024 : Int) < (n : Int)) = false := decide_eq_false (by omega)
  have e2 : decide (1024 < n) = false := decide_eq_false (by omega)
  have e3 : decide ((0 : Int) < (n : Int)) = false := decide_eq_false (by omega)
  have e4 : decide (0 < n) = false := decide_eq_false (by omega)
  clear hn
  go_enter Tryz.func75, Tryz.ntmps75
  go_wp2
  go_loopg [13] 0 (fun kq v13 w' => v13 = .int .i64 0 ∧ Aside0 (Below w.heap.size w w'))
  case atStart => exact ⟨rfl, HB⟩
  case round =>
    obtain ⟨rfl, B⟩ := hrel
    go_wp2
    go_ret
    exact ⟨rfl, B.out⟩
theorem sz0 : (⟨#[]⟩ : ByteArray).size = 0 := rfl
theorem wM (w : World) (B : Nat) (hB : B ≤ w.heap.size) : Lib.IsBuilderF 150 5 B w.heap.size (Lib.strCells ⟨#[]⟩) (w.alloc (.cells #[.pointer none, .slice none 0 0] 150)) :=
  .inl ⟨hB, .slice none 0 0, heap_alloc_new w _, ⟨rfl, .inl ⟨rfl, rfl⟩⟩, by simp [Value.ownBlock]⟩
def eT.f (k : Nat) (a0 : Int) (l : List S79) : Option (ByteArray × Int) := if l.length = 0 then ((bS.f k 8 a0).bind fun p => (bS.f k 2 0).bind fun q => if 0 < p.size ∧ p.size + q.size ≤ 140737488355328 then some (p ++ q, 0) else none) else none
theorem eT.mono : ∀ a0 l k, LeO (eT.f k a0 l) (eT.f (k + 1) a0 l) := fun a0 l k =>
  LeO.ite (LeO.bind (bS.mono _ _ k) fun p => LeO.bind (bS.mono _ _ k) fun q => LeO.refl _) (LeO.refl _)
set_option maxHeartbeats 8000000 in
set_option maxRecDepth 100000 in
theorem eT.calls (k : Nat) (a0 : Int) (A1 : Option Addr) (Bw : Nat) (l : List S79) (r1 : ByteArray) (r2 : Int) (w : World) (hr1 : Kd.C k79 w A1 l.length l) (hc1 : l.length ≤ Bw) (h : eT.f k a0 l = some (r1, r2)) :
    Calls Tryz.prog 52 #[.agg #[.int .u64 a0, .slice A1 l.length Bw]] w fun e w' => e = .returned (.tuple #[.string r1, .int .i64 r2]) ∧ Below w.heap.size w w' := by
  have hl0 : l.length = 0 := Decidable.by_contra fun hn => by rw [eT.f, if_neg hn] at h; cases h
  rw [eT.f, if_pos hl0] at h
  obtain ⟨p8, BD, h⟩ := Option.bind_eq_some_iff.1 h
  obtain ⟨p2, hp2, h⟩ := Option.bind_eq_some_iff.1 h
  have hsz : 0 < p8.size ∧ p8.size + p2.size ≤ 140737488355328 := Decidable.by_contra fun hn => by rw [if_neg hn] at h; cases h
  rw [if_pos hsz] at h
  simp only [Option.some.injEq, Prod.mk.injEq] at h
  obtain ⟨rfl, rfl⟩ := h
  rw [hl0]
  have BI := Aside0.mk BD
  have BJ := Aside0.mk hp2
  have HSZ := Aside0.mk hsz
  clear hl0 BD hp2 hsz hr1 hc1
  have BK := Tryz.underlying51
  have BF := Tryz.underlying150
  have hc0 : ((0 : Int) != 0) = false := rfl
  go_enter Tryz.func52, Tryz.ntmps52
  go_upto_region 5 with (first | (go_at_call 75; refine (zH.calls a0 A1 Bw 0 _ rfl).mono ?_; rintro e w1 ⟨rfl, hb1⟩; have B1 := Aside0.mk (aN (show Below w.heap.size w _ from (Below.refl _ w).alloc (Nat.le_refl _) _) hb1); have P1 := Aside0.mk ((hb1.block w.heap.size (by simp)).trans (heap_alloc_new w _)); clear hb1))
  (try simp only [Act.put, List.setIfInBounds_toArray, List.set_cons_zero, List.set_cons_succ])
  have hle : w.heap.size + 1 ≤ w1.heap.size := aW P1.out
  have HB0 := Aside0.mk (wM w1 (w.heap.size + 1) hle)
  have HP := Aside0.mk (ak P1.out (.cells #[.pointer none, .slice none 0 0] 150))
  have HW := Aside0.mk (B1.out.alloc (by omega) (.cells #[.pointer none, .slice none 0 0] 150))
  have HS := Aside0.mk (show w.heap.size + 1 ≤ (w1.alloc (.cells #[.pointer none, .slice none 0 0] 150)).heap.size by simp; omega)
  generalize w1.alloc (.cells #[.pointer none, .slice none 0 0] 150) = wb at HB0 HP HW HS ⊢
  generalize w1.heap.size = gB at HB0 ⊢
  clear B1 P1 hle
  have z0 : wb.cell? ⟨w.heap.size, 0, none⟩ = some (.int .u64 a0) := (ah HP.out 0).trans rfl
  have z1 : wb.cell? ⟨w.heap.size, 1, none⟩ = some (.slice A1 0 Bw) := (ah HP.out 1).trans rfl
  go_upto_region 6 with (first | (go_at_call 76; refine (fD.calls k (w.heap.size + 1) gB ⟨#[]⟩ p8 8 a0 _ BI.out HB0.out (by rw [sz0]; have := HSZ.out.2; omega) HS.out).mono ?_; rintro e w2 ⟨rfl, hbd, hbl⟩; have HB2 := Aside0.mk hbd; have Bz := Aside0.mk ((hbl.block w.heap.size (by omega)).trans HP.out); have HW2 := Aside0.mk (HW.out.trans (hbl.mono (Nat.le_succ _))); have HS2 := Aside0.mk (Nat.le_trans HS.out hbl.size); clear hbd hbl))
  (try simp only [Act.put, List.setIfInBounds_toArray, List.set_cons_zero, List.set_cons_succ])
  clear z0 z1 HB0 HP HW HS
  have z1 : w2.cell? ⟨w.heap.size, 1, none⟩ = some (.slice A1 0 Bw) := (ah Bz.out 1).trans rfl
  go_upto_region 7 with (first | (go_at_call 76; refine (fD.calls k (w.heap.size + 1) gB (⟨#[]⟩ ++ p8) p2 2 0 _ BJ.out HB2.out (by rw [ByteArray.size_append, sz0]; have := HSZ.out.2; omega) HS2.out).mono ?_; rintro e w3 ⟨rfl, hbd, hbl⟩; have HB3 := Aside0.mk hbd; have BG := Aside0.mk ((hbl.block w.heap.size (by omega)).trans Bz.out); have HW3 := Aside0.mk (HW2.out.trans (hbl.mono (Nat.le_succ _))); clear hbd hbl))
  (try simp only [Act.put, List.setIfInBounds_toArray, List.set_cons_zero, List.set_cons_succ])
  clear z1 HB2 Bz HW2 HS2
  have z1 : w3.cell? ⟨w.heap.size, 1, none⟩ = some (.slice A1 0 Bw) := (ah BG.out 1).trans rfl
  go_wp2
  clear z1
  go_loopg [31] 0 (fun kq v31 w' => v31 = .int .i64 0 ∧ Aside0 (Lib.IsBuilderF 150 5 (w.heap.size + 1) gB (Lib.strCells (⟨#[]⟩ ++ p8 ++ p2)) w') ∧ Aside0 (Below w.heap.size w w'))
  case atStart => exact ⟨rfl, HB3, HW3⟩
  case round =>
    clear HB3 BG HW3
    obtain ⟨rfl, HB3, HW3⟩ := hrel
    have hne : (⟨#[]⟩ ++ p8 ++ p2 : ByteArray).data.toList ≠ [] := fun e => by
      have h1 : (⟨#[]⟩ ++ p8 ++ p2 : ByteArray).size = 0 := by
        rw [ByteArray.size, ← Array.length_toList, e]; rfl
      rw [ByteArray.size_append, ByteArray.size_append, sz0] at h1
      have := HSZ.out.1
      omega
    have hS := BldW.su (w.heap.size + 1) gB (⟨#[]⟩ ++ p8 ++ p2 : ByteArray).data.toList wr (by rw [← kK]; exact HB3.out) hne
    have hee : (⟨#[]⟩ ++ p8 ++ p2 : ByteArray) = p8 ++ p2 := by rw [show (⟨#[]⟩ : ByteArray) = ByteArray.empty from rfl]; simp
    clear hne
    go_wp2_with (go_at_call 69; refine hS.mono ?_; rintro e w4 ⟨rfl, hb4⟩)
    go_ret2
    exact ⟨by rw [← hee]; first | rfl | simp, HW3.out.trans (hb4.mono (Nat.le_succ _))⟩
end Go.Proofs.YtpncpefppifgdaaGreatDoor.GUt
