/- ckthree.Encode of a state without pods: its contract, in terms of plain functions. No conditions beside those stated. -/
import Derived.Test.YtpflenjhmeaeoaaGreatDoorGUtEnc1
import Derived.Test.YtpflenjhmeaeoaaGreatDoorGUtStrW
namespace Go.Proofs.YtpflenjhmeaeoaaGreatDoor.GUt
open Go.RowKit Go.Shelf Go.Proofs.YtpflenjhmeaeoaaGreatDoorW.PrintWords Go.Proofs.YtpflenjhmeaeoaaGreatDoorW.PrintLast Go.Proofs.YtpflenjhmeaeoaaGreatDoorW.PrintMore
set_option linter.unusedVariables false
set_option linter.unusedSimpArgs false
theorem rM {B : Nat} {w W W1 : World} (h : Below B w W) (hB : B ≤ W.heap.size) (hb : Below W.heap.size W W1) : Below B w W1 := h.trans (hb.mono hB)
def fV.T0 : Bool × List (List Nat × List Nat) := (true, [([], []), ([0], [0]), ([1], [1]), ([], []), ([], []), ([3, 4], [3, 4]), ([2, 5, 5], [2, 5])])
def fV.B0 : List Nat := [0, 1, 3, 0, 0, 24, 63]
theorem fV.AV : gV .any (opsOf Tryz.f30 0) = fV.T0 := by kernel_rfl
theorem fV.Al : fQ fV.T0.2 fV.B0 = true := by kernel_rfl
set_option maxHeartbeats 4000000 in
set_option maxRecDepth 100000 in
theorem fV.calls (k B b : Nat) (acc p : ByteArray) (n u : Int) (w : World) (hp : dz.f k n u = some p) (h : Lib.IsBuilderF 96 5 B b (Lib.strCells acc) w) (hl : acc.size + p.size ≤ 140737488355328) (hBw : B ≤ w.heap.size) :
    Calls Tryz.prog 30 #[.pointer (some ⟨b, 0, none⟩), .int .i64 n, .int .u64 u] w fun e w' => e = .returned (.tuple #[]) ∧ Lib.IsBuilderF 96 5 B b (Lib.strCells (acc ++ p)) w' ∧ Below B w w' := by
  have HB := Aside0.mk h
  have HW := Aside0.mk (Below.refl B w)
  clear h
  go_enter Tryz.func30, Tryz.ntmps30
  refine fU (n := 7) (S := fun w' => True) (ds := []) #[false, false, false, false, false, false, false] (by kernel_rfl) rfl rfl (trivial) (fun hHeld => ?_)
  refine dY fV.AV fV.Al (fun HT_ HW_ => ?_)
  replace HB := Aside0.mk (kF HB.out (iH (Below.refl _ _)))
  replace HW := Aside0.mk (bB HW.out)
  refine eZ (i := 0) (N := some 6) (v := ?_) (a' := ?_) #[true, false, false, false, false, false, false] rfl rfl (fE HT_.out (by kernel_rfl)) (fun _ _ _ h => h) (Or.inl ⟨by rfl, ?_⟩) ?_ ?_
  rotate_left
  · intro w'
    go_simp
    with_reducible rfl
  rotate_left
  · simp only [Act.put, List.setIfInBounds_toArray, List.set_cons_zero, List.set_cons_succ, bJ, bM]
    rfl
  refine eZ (i := 1) (N := some 7) (v := ?_) (a' := ?_) #[true, true, false, false, false, false, false] rfl rfl (fE HT_.out (by kernel_rfl)) (fun _ _ _ h => h) (Or.inl ⟨by rfl, ?_⟩) ?_ ?_
  rotate_left
  · intro w'
    go_simp
    with_reducible rfl
  rotate_left
  · simp only [Act.put, List.setIfInBounds_toArray, List.set_cons_zero, List.set_cons_succ, bJ, bM]
    rfl
  refine eZ (i := 2) (N := some 8) (v := ?_) (a' := ?_) #[true, true, true, false, false, false, false] rfl rfl (fE HT_.out (by kernel_rfl)) (fun _ _ _ h => h) (Or.inl ⟨by rfl, ?_⟩) ?_ ?_
  rotate_left
  · intro w'
    go_simp
    with_reducible rfl
  rotate_left
  · simp only [Act.put, List.setIfInBounds_toArray, List.set_cons_zero, List.set_cons_succ, bJ, bM]
    rfl
  refine eZ (i := 3) (N := some 9) (v := ?_) (a' := ?_) #[true, true, true, true, false, false, false] rfl rfl (fE HT_.out (by kernel_rfl)) (fun _ _ _ h => h) (Or.inl ⟨by rfl, ?_⟩) ?_ ?_
  rotate_left
  · intro w'
    go_simp
    with_reducible rfl
  rotate_left
  · simp only [Act.put, List.setIfInBounds_toArray, List.set_cons_zero, List.set_cons_succ, bJ, bM]
    rfl
  refine eZ (i := 4) (N := some 10) (v := ?_) (a' := ?_) #[true, true, true, true, true, false, false] rfl rfl (fE HT_.out (by kernel_rfl)) (fun _ _ _ h => h) (Or.inl ⟨by rfl, ?_⟩) ?_ ?_
  rotate_left
  · intro w'
    go_simp
    with_reducible rfl
  rotate_left
  · simp only [Act.put, List.setIfInBounds_toArray, List.set_cons_zero, List.set_cons_succ, bJ, bM]
    rfl
  refine gq (i := 5) (N := some 11) #[true, true, true, true, true, true, false] rfl rfl (dD HT_.out (by kernel_rfl)) (by decide) (fun K hK => ?_)
  refine eX Tryz.func46 (by kernel_rfl) rfl #[.int .i64 n, .int .u64 u] (by rfl) rfl rfl (by (try simp only [List.map_toArray, List.map_cons, List.map_nil]); first | done | rfl) ?_
  refine (dz.calls k n u p _ hp).mono ?_
  rintro e w5 ⟨rfl, hb⟩
  refine ⟨_, rfl, ?_⟩
  have HB1 := Aside0.mk (kF HB.out hb)
  have HW1 := Aside0.mk (rM HW.out hBw hb)
  have Bj := Aside0.mk hb.size
  clear hb HB HW
  refine hK.out _ _ (trivial) (fun hHeld => ?_)
  clear hK K
  refine dW (a' := ?_) ?_ ?_
  rotate_left
  · show Act.put _ (some 11) _ = _
    simp only [Act.put, List.setIfInBounds_toArray, List.set_cons_zero, List.set_cons_succ, bJ, bM]
    rfl
  refine gq (i := 6) (N := some 12) #[true, true, true, true, true, true, true] rfl rfl (dD HT_.out (by kernel_rfl)) (by decide) (fun K hK => ?_)
  refine eX Tryz.func32 (by kernel_rfl) rfl #[.pointer (some ⟨b, 0, none⟩), .string p] (by rfl) rfl rfl (by (try simp only [List.map_toArray, List.map_cons, List.map_nil]); first | done | rfl) ?_
  refine (BldW.writeString B b (Lib.strCells acc) p _ HB1.out (by simpa [Lib.strCells] using hl) (Nat.le_trans hBw Bj.out)).mono ?_
  rintro e w6 ⟨rfl, hat, hbB, hk⟩
  refine ⟨_, rfl, ?_⟩
  have HB2 := Aside0.mk (Or.inr hat : Lib.IsBuilderF 96 5 B b (Lib.strCells acc ++ Lib.strCells p) w6)
  have HW2 := Aside0.mk (HW1.out.trans hbB)
  clear hat hbB hk HB1
  refine hK.out _ _ (trivial) (fun hHeld => ?_)
  clear hK K
  refine dW (a' := ?_) ?_ ?_
  rotate_left
  · show Act.put _ (some 12) _ = _
    simp only [Act.put, List.setIfInBounds_toArray, List.set_cons_zero, List.set_cons_succ, bJ, bM]
    rfl
  refine gP (fF HT_.out (by kernel_rfl)) ?_
  go_wp2
  go_end0
  exact ⟨rfl, by rw [← mV]; exact HB2.out, HW2.out⟩
set_option maxHeartbeats 4000000 in
set_option maxRecDepth 100000 in
theorem zA.calls (a0 : Int) (A1 : Option Addr) (AZ n : Nat) (w : World) (hn : n = 0) :
    Calls Tryz.prog 29 #[.agg #[.int .u64 a0, .slice A1 n AZ]] w fun e w' => e = .returned (.int .i64 0) ∧ Below w.heap.size w w' := by
  have HB := Aside0.mk ((Below.refl _ w).alloc (Nat.le_refl _) (.cells #[.int .u64 a0, .slice A1 n AZ] 25))
  have e1 : decide ((1024 : Int) < (n : Int)) = false := decide_eq_false (by omega)
  have e2 : decide (1024 < n) = false := decide_eq_false (by omega)
  have e3 : decide ((0 : Int) < (n : Int)) = false := decide_eq_false (by omega)
  have e4 : decide (0 < n) = false := decide_eq_false (by omega)
  clear hn
  go_enter Tryz.func29, Tryz.ntmps29
  go_wp2
  go_loopg [13] 0 (fun kq v13 w' => v13 = .int .i64 0 ∧ Aside0 (Below w.heap.size w w'))
  case atStart => exact ⟨rfl, HB⟩
  case round =>
    obtain ⟨rfl, B⟩ := hrel
    go_wp2
    go_ret
    exact ⟨rfl, B.out⟩
theorem sz0 : (⟨#[]⟩ : ByteArray).size = 0 := rfl
theorem wH (w : World) (B : Nat) (hB : B ≤ w.heap.size) : Lib.IsBuilderF 96 5 B w.heap.size (Lib.strCells ⟨#[]⟩) (w.alloc (.cells #[.pointer none, .slice none 0 0] 96)) :=
  .inl ⟨hB, .slice none 0 0, heap_alloc_new w _, ⟨rfl, .inl ⟨rfl, rfl⟩⟩, by simp [Value.ownBlock]⟩
def fC.f (k : Nat) (a0 : Int) (l : List S51) : Option (ByteArray × Int) := if l.length = 0 then ((dz.f k 8 a0).bind fun p => (dz.f k 2 0).bind fun q => if 0 < p.size ∧ p.size + q.size ≤ 140737488355328 then some (p ++ q, 0) else none) else none
theorem fC.mono : ∀ a0 l k, LeO (fC.f k a0 l) (fC.f (k + 1) a0 l) := fun a0 l k =>
  LeO.ite (LeO.bind (dz.mono _ _ k) fun p => LeO.bind (dz.mono _ _ k) fun q => LeO.refl _) (LeO.refl _)
set_option maxHeartbeats 8000000 in
set_option maxRecDepth 100000 in
theorem fC.calls (k : Nat) (a0 : Int) (A1 : Option Addr) (AZ : Nat) (l : List S51) (r1 : ByteArray) (r2 : Int) (w : World) (hr1 : Kd.C k51 w A1 l.length l) (hc1 : l.length ≤ AZ) (h : fC.f k a0 l = some (r1, r2)) :
    Calls Tryz.prog 23 #[.agg #[.int .u64 a0, .slice A1 l.length AZ]] w fun e w' => e = .returned (.tuple #[.string r1, .int .i64 r2]) ∧ Below w.heap.size w w' := by
  have hl0 : l.length = 0 := Decidable.by_contra fun hn => by rw [fC.f, if_neg hn] at h; cases h
  rw [fC.f, if_pos hl0] at h
  obtain ⟨p8, Bg, h⟩ := Option.bind_eq_some_iff.1 h
  obtain ⟨p2, hp2, h⟩ := Option.bind_eq_some_iff.1 h
  have hsz : 0 < p8.size ∧ p8.size + p2.size ≤ 140737488355328 := Decidable.by_contra fun hn => by rw [if_neg hn] at h; cases h
  rw [if_pos hsz] at h
  simp only [Option.some.injEq, Prod.mk.injEq] at h
  obtain ⟨rfl, rfl⟩ := h
  rw [hl0]
  have Bl := Aside0.mk Bg
  have Bn := Aside0.mk hp2
  have HSZ := Aside0.mk hsz
  clear hl0 Bg hp2 hsz hr1 hc1
  have Bo := Tryz.underlying25
  have Bp := Tryz.underlying96
  have hc0 : ((0 : Int) != 0) = false := rfl
  go_enter Tryz.func23, Tryz.ntmps23
  go_upto_region 5 with (first | (go_at_call 29; refine (zA.calls a0 A1 AZ 0 _ rfl).mono ?_; rintro e w1 ⟨rfl, hb1⟩; have B1 := Aside0.mk (aK (show Below w.heap.size w _ from (Below.refl _ w).alloc (Nat.le_refl _) _) hb1); have P1 := Aside0.mk ((hb1.block w.heap.size (by simp)).trans (heap_alloc_new w _)); clear hb1))
  (try simp only [Act.put, List.setIfInBounds_toArray, List.set_cons_zero, List.set_cons_succ])
  have hle : w.heap.size + 1 ≤ w1.heap.size := dh P1.out
  have HB0 := Aside0.mk (wH w1 (w.heap.size + 1) hle)
  have HP := Aside0.mk (aD P1.out (.cells #[.pointer none, .slice none 0 0] 96))
  have HW := Aside0.mk (B1.out.alloc (by omega) (.cells #[.pointer none, .slice none 0 0] 96))
  have HS := Aside0.mk (show w.heap.size + 1 ≤ (w1.alloc (.cells #[.pointer none, .slice none 0 0] 96)).heap.size by simp; omega)
  generalize w1.alloc (.cells #[.pointer none, .slice none 0 0] 96) = wb at HB0 HP HW HS ⊢
  generalize w1.heap.size = gB at HB0 ⊢
  clear B1 P1 hle
  have z0 : wb.cell? ⟨w.heap.size, 0, none⟩ = some (.int .u64 a0) := (ah HP.out 0).trans rfl
  have z1 : wb.cell? ⟨w.heap.size, 1, none⟩ = some (.slice A1 0 AZ) := (ah HP.out 1).trans rfl
  go_upto_region 6 with (first | (go_at_call 30; refine (fV.calls k (w.heap.size + 1) gB ⟨#[]⟩ p8 8 a0 _ Bl.out HB0.out (by rw [sz0]; have := HSZ.out.2; omega) HS.out).mono ?_; rintro e w2 ⟨rfl, hbd, hbl⟩; have HB2 := Aside0.mk hbd; have Bf := Aside0.mk ((hbl.block w.heap.size (by omega)).trans HP.out); have HW2 := Aside0.mk (HW.out.trans (hbl.mono (Nat.le_succ _))); have HS2 := Aside0.mk (Nat.le_trans HS.out hbl.size); clear hbd hbl))
  (try simp only [Act.put, List.setIfInBounds_toArray, List.set_cons_zero, List.set_cons_succ])
  clear z0 z1 HB0 HP HW HS
  have z1 : w2.cell? ⟨w.heap.size, 1, none⟩ = some (.slice A1 0 AZ) := (ah Bf.out 1).trans rfl
  go_upto_region 7 with (first | (go_at_call 30; refine (fV.calls k (w.heap.size + 1) gB (⟨#[]⟩ ++ p8) p2 2 0 _ Bn.out HB2.out (by rw [ByteArray.size_append, sz0]; have := HSZ.out.2; omega) HS2.out).mono ?_; rintro e w3 ⟨rfl, hbd, hbl⟩; have HB3 := Aside0.mk hbd; have Bh := Aside0.mk ((hbl.block w.heap.size (by omega)).trans Bf.out); have HW3 := Aside0.mk (HW2.out.trans (hbl.mono (Nat.le_succ _))); clear hbd hbl))
  (try simp only [Act.put, List.setIfInBounds_toArray, List.set_cons_zero, List.set_cons_succ])
  clear z1 HB2 Bf HW2 HS2
  have z1 : w3.cell? ⟨w.heap.size, 1, none⟩ = some (.slice A1 0 AZ) := (ah Bh.out 1).trans rfl
  go_wp2
  clear z1
  go_loopg [31] 0 (fun kq v31 w' => v31 = .int .i64 0 ∧ Aside0 (Lib.IsBuilderF 96 5 (w.heap.size + 1) gB (Lib.strCells (⟨#[]⟩ ++ p8 ++ p2)) w') ∧ Aside0 (Below w.heap.size w w'))
  case atStart => exact ⟨rfl, HB3, HW3⟩
  case round =>
    clear HB3 Bh HW3
    obtain ⟨rfl, HB3, HW3⟩ := hrel
    have hne : (⟨#[]⟩ ++ p8 ++ p2 : ByteArray).data.toList ≠ [] := fun e => by
      have h1 : (⟨#[]⟩ ++ p8 ++ p2 : ByteArray).size = 0 := by
        rw [ByteArray.size, ← Array.length_toList, e]; rfl
      rw [ByteArray.size_append, ByteArray.size_append, sz0] at h1
      have := HSZ.out.1
      omega
    have hS := BldW.sM (w.heap.size + 1) gB (⟨#[]⟩ ++ p8 ++ p2 : ByteArray).data.toList wr (by rw [← kI]; exact HB3.out) hne
    have hee : (⟨#[]⟩ ++ p8 ++ p2 : ByteArray) = p8 ++ p2 := by rw [show (⟨#[]⟩ : ByteArray) = ByteArray.empty from rfl]; simp
    clear hne
    go_wp2_with (go_at_call 35; refine hS.mono ?_; rintro e w4 ⟨rfl, hb4⟩)
    go_ret2
    exact ⟨by rw [← hee]; first | rfl | simp, HW3.out.trans (hb4.mono (Nat.le_succ _))⟩
end Go.Proofs.YtpflenjhmeaeoaaGreatDoor.GUt
