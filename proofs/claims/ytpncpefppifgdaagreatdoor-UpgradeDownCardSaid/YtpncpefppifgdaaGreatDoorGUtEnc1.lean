/- ckone.Encode: its contract, in terms of plain functions. No conditions beside those stated. -/
import Derived.Test.YtpncpefppifgdaaGreatDoorCp
import Derived.Test.YtpncpefppifgdaaGreatDoorBld
import Derived.Test.YtpncpefppifgdaaGreatDoorGUtx3
namespace Go.Proofs.YtpncpefppifgdaaGreatDoor.GUt
open Go.RowKit Go.Shelf Go.Proofs.YtpncpefppifgdaaGreatDoorW.PrintWords Go.Proofs.YtpncpefppifgdaaGreatDoorW.PrintLast Go.Proofs.YtpncpefppifgdaaGreatDoorW.PrintMore
set_option linter.unusedVariables false
set_option linter.unusedSimpArgs false
def dL.f (k : Nat) (Bw : Int) (BG : List S67) : Option (ByteArray × Int) := if BG.length = 0 then ((bS.f k 4 (IntKind.u64.wrap Bw)).bind fun p => (bS.f k 2 (IntKind.u64.wrap (BG.length : Int))).bind fun q => if p.size + q.size ≤ 140737488355328 then some (p ++ q, 0) else none) else none
theorem dL.mono : ∀ Bw BG k, LeO (dL.f k Bw BG) (dL.f (k + 1) Bw BG) := fun Bw BG k =>
  LeO.ite (LeO.bind (bS.mono _ _ k) fun p => LeO.bind (bS.mono _ _ k) fun q => LeO.refl _) (LeO.refl _)
set_option maxHeartbeats 4000000 in
set_option maxRecDepth 100000 in
theorem zx.calls (Bw : Int) (BD : Option Addr) (BF n : Nat) (w : World) (hn : n = 0) :
    Calls Tryz.prog 65 #[.agg #[.int .u32 Bw, .slice BD n BF]] w fun e w' => e = .returned (.int .i64 0) ∧ Below w.heap.size w w' := by
  have HB := Aside0.mk ((Below.refl _ w).alloc (Nat.le_refl _) (.cells #[.int .u32 Bw, .slice BD n BF] 25))
  have e1 : decide ((1024 : Int) < (n : Int)) = false := decide_eq_false (by omega)
  have e2 : decide (1024 < n) = false := decide_eq_false (by omega)
  have e3 : decide ((0 : Int) < (n : Int)) = false := decide_eq_false (by omega)
  have e4 : decide (0 < n) = false := decide_eq_false (by omega)
  have HN := Aside0.mk hn
  clear hn
  go_enter Tryz.func65, Tryz.ntmps65
  go_wp2
  go_loopg [12] 0 (fun kq v12 w' => v12 = .int .i64 0 ∧ Aside0 (Below w.heap.size w w'))
  case atStart => exact ⟨rfl, HB⟩
  case round =>
    obtain ⟨rfl, B⟩ := hrel
    go_wp2
    go_ret
    exact ⟨rfl, B.out⟩
theorem kG {T e : TypeId} {B b : Nat} {bs : List Value} {w w' : World} (h : Lib.IsBuilderF T e B b bs w) (hb : Below w.heap.size w w') : Lib.IsBuilderF T e B b bs w' := by
  have one : ∀ p, Lib.BuilderAtF T e B b p bs w → Lib.BuilderAtF T e B b p bs w' := by
    rintro p ⟨hB, v, hh, ⟨hl, hv⟩, hne⟩
    refine ⟨hB, v, (hb.block b (Array.getElem?_eq_some_iff.1 hh).1).trans hh, ⟨hl, ?_⟩, hne⟩
    rcases hv with hv | ⟨g, cap, cur, fz, h1, h2, h3, h4⟩
    · exact .inl hv
    · exact .inr ⟨g, cap, cur, fz, h1, h2, (hb.block g (Array.getElem?_eq_some_iff.1 h3).1).trans h3, h4⟩
  exact h.elim (fun x => .inl (one _ x)) (fun x => .inr (one _ x))
theorem mY (a b : ByteArray) : Lib.strCells a ++ Lib.strCells b = Lib.strCells (a ++ b) := by
  simp [Lib.strCells]
theorem kK (a : ByteArray) : Lib.strCells a = Lib.byteCells a.data.toList := by
  first | rfl | simp [Lib.strCells, Lib.byteCells]
theorem wu (w : World) (B : Nat) (hB : B ≤ w.heap.size) : Lib.IsBuilderF 140 5 B w.heap.size (Lib.strCells ⟨#[]⟩) (w.alloc (.cells #[.pointer none, .slice none 0 0] 140)) :=
  .inl ⟨hB, .slice none 0 0, heap_alloc_new w _, ⟨rfl, .inl ⟨rfl, rfl⟩⟩, by simp [Value.ownBlock]⟩
def dL.T5 : Bool × List (List Nat × List Nat) := (true, [([], []), ([0], [0]), ([1], [1]), ([2], [2]), ([], []), ([4], [4]), ([5], [5]), ([6], [6]), ([7, 3], [7]), ([3, 8], [3, 8]), ([9, 8], [9])])
def dL.B5 : List Nat := [0, 1, 3, 7, 0, 16, 48, 112, 255, 511, 1023]
theorem dL.qB : gT .any (opsOf Tryz.f48 5) = dL.T5 := by kernel_rfl
theorem dL.mK : fO dL.T5.2 dL.B5 = true := by kernel_rfl
theorem iO {w : World} {b : Nat} {cs : Array Value} {t : TypeId} (h : w.heap[b]? = some (.cells cs t (0, 0))) (j : Nat) : w.cell? ⟨b, j, none⟩ = cs[j]? := by simp [World.cell?, h]
set_option maxHeartbeats 4000000 in
set_option maxRecDepth 100000 in
theorem dL.calls (k : Nat) (Bw : Int) (BD : Option Addr) (BF : Nat) (Bz : List S67) (r1 : ByteArray) (r2 : Int) (w : World) (BH : Kd.C k67 w BD Bz.length Bz) (BI : Bz.length ≤ BF) (h : dL.f k Bw Bz = some (r1, r2)) :
    Calls Tryz.prog 48 #[.agg #[.int .u32 Bw, .slice BD Bz.length BF]] w fun e w' => e = .returned (.tuple #[.string r1, .int .i64 r2]) ∧ Below w.heap.size w w' := by
  have hl0 : Bz.length = 0 := Decidable.by_contra fun hn => by rw [dL.f, if_neg hn] at h; cases h
  rw [dL.f, if_pos hl0] at h
  have BJ := Aside0.mk hl0
  clear hl0
  go_enter Tryz.func48, Tryz.ntmps48
  ·
    obtain ⟨p4, BN, h⟩ := Option.bind_eq_some_iff.1 h
    obtain ⟨p2, hp2, h⟩ := Option.bind_eq_some_iff.1 h
    have hsz : p4.size + p2.size ≤ 140737488355328 := Decidable.by_contra fun hn => by rw [if_neg hn] at h; cases h
    rw [if_pos hsz] at h
    have hc0 : ((0 : Int) != 0) = false := rfl
    have hov : (9223372036854775807 < p4.size + p2.size) = False := eq_false (by omega)
    go_wp2_with (go_at_call 65; refine (zx.calls Bw BD BF Bz.length _ BJ.out).mono ?_; rintro e w1 ⟨rfl, hb1⟩)
    have bx1 : w1.heap[w.heap.size]? = some (.cells #[.int .u32 Bw, .slice BD Bz.length BF] 25 (0, 0)) := (hb1.block _ (by simp)).trans (heap_alloc_new w _)
    have hle : w.heap.size + 1 ≤ w1.heap.size := by have := hb1.size; simpa using this
    have B1 : Below w.heap.size w w1 := ((Below.refl _ w).alloc (Nat.le_refl _) _).trans (hb1.mono (by simp))
    have bxa := (Below.heap_alloc w1 (.cells #[.pointer none, .slice none 0 0] 140) w.heap.size (by omega)).trans bx1
    have bda := wu w1 w.heap.size (by omega)
    have Ba : Below w.heap.size w (w1.alloc (.cells #[.pointer none, .slice none 0 0] 140)) := B1.alloc (by omega) _
    have hgb : w.heap.size ≠ w1.heap.size := by omega
    refine gZ (n := 11) (S := fun w' => w'.cell? ⟨w.heap.size, 0, none⟩ = some (.int .u32 Bw) ∧ w'.cell? ⟨w.heap.size, 1, none⟩ = some (.slice BD Bz.length BF)) (ds := []) #[O,O,O,O,O,O,O,O,O,O,O] (by kernel_rfl) rfl rfl ⟨iO bxa 0, iO bxa 1⟩ (fun hHeld => ?_); refine eY dL.qB dL.mK (fun HT_ HW_ => ?_)
    obtain ⟨wb, hwb⟩ : ∃ wb, (w1.alloc (.cells #[.pointer none, .slice none 0 0] 140)).drew = wb := ⟨_, rfl⟩
    have bxb : wb.heap[w.heap.size]? = some (.cells #[.int .u32 Bw, .slice BD Bz.length BF] 25 (0, 0)) := by rw [← hwb]; exact bxa
    have bdb : Lib.IsBuilderF 140 5 w.heap.size w1.heap.size (Lib.strCells ⟨#[]⟩) wb := by rw [← hwb]; exact bda
    have Bb : Below w.heap.size w wb := by rw [← hwb]; exact bL Ba
    rw [hwb] at hHeld ⊢
    clear hwb
    generalize w1.heap.size = gB at bdb hgb ⊢
    refine pu_ 0 17 #[I,O,O,O,O,O,O,O,O,O,O] HT_.out ?_
    refine pu_ 4 21 #[I,O,O,O,I,O,O,O,O,O,O] HT_.out ?_
    refine ta_ 1 18 #[I,I,O,O,I,O,O,O,O,O,O] HT_.out HW_.out hHeld ?_
    refine pu_ 2 19 #[I,I,I,O,I,O,O,O,O,O,O] HT_.out ?_
    refine ta_ 5 22 #[I,I,I,O,I,I,O,O,O,O,O] HT_.out HW_.out hHeld ?_
    refine pu_ 6 23 #[I,I,I,O,I,I,I,O,O,O,O] HT_.out ?_
    refine pu_ 7 24 #[I,I,I,O,I,I,I,I,O,O,O] HT_.out ?_
    refine fU (i := 3) (N := some 20) #[I,I,I,I,I,I,I,I,O,O,O] rfl rfl (cO HT_.out (by kernel_rfl)) (by decide) (fun K hK => ?_)
    refine eU Tryz.func67 (by kernel_rfl) rfl #[.int .i64 4, .int .u64 (IntKind.u64.wrap Bw)] (by rfl) rfl rfl (by (try simp only [List.map_toArray, List.map_cons, List.map_nil]); first | done | rfl) ?_
    refine (bS.calls k 4 (IntKind.u64.wrap Bw) p4 _ BN).mono ?_
    rintro e wc ⟨rfl, hb⟩
    refine ⟨_, rfl, ?_⟩
    have bxc := (hb.block _ (Array.getElem?_eq_some_iff.1 bxb).1).trans bxb
    have bdc := kG bdb hb
    have Bc := Bb.trans (hb.mono Bb.size)
    clear hb
    refine hK.out _ _ ⟨iO bxc 0, iO bxc 1⟩ (fun hHeld => ?_)
    clear hK K
    refine dX (a' := ?_) ?_ ?_
    rotate_left
    · show Act.put _ (some 20) _ = _
      simp only [Act.put, List.setIfInBounds_toArray, List.set_cons_zero, List.set_cons_succ, bO, bR]
      rfl
    refine fU (i := 8) (N := some 25) #[I,I,I,I,I,I,I,I,I,O,O] rfl rfl (cO HT_.out (by kernel_rfl)) (by decide) (fun K hK => ?_)
    refine eU Tryz.func67 (by kernel_rfl) rfl #[.int .i64 2, .int .u64 (IntKind.u64.wrap (Bz.length : Int))] (by rfl) rfl rfl (by (try simp only [List.map_toArray, List.map_cons, List.map_nil]); first | done | rfl) ?_
    refine (bS.calls k 2 (IntKind.u64.wrap (Bz.length : Int)) p2 _ hp2).mono ?_
    rintro e wd ⟨rfl, hb⟩
    refine ⟨_, rfl, ?_⟩
    have bxd := (hb.block _ (Array.getElem?_eq_some_iff.1 bxc).1).trans bxc
    have bdd := kG bdc hb
    have Bd := Bc.trans (hb.mono Bc.size)
    clear hb
    refine hK.out _ _ ⟨iO bxd 0, iO bxd 1⟩ (fun hHeld => ?_)
    clear hK K
    refine dX (a' := ?_) ?_ ?_
    rotate_left
    · show Act.put _ (some 25) _ = _
      simp only [Act.put, List.setIfInBounds_toArray, List.set_cons_zero, List.set_cons_succ, bO, bR]
      rfl
    refine pu_ 9 26 #[I,I,I,I,I,I,I,I,I,I,O] HT_.out ?_
    refine fU (i := 10) (N := some 27) #[I,I,I,I,I,I,I,I,I,I,I] rfl rfl (cO HT_.out (by kernel_rfl)) (by decide) (fun K hK => ?_)
    refine eU Tryz.func66 (by kernel_rfl) rfl #[.pointer (some ⟨gB, 0, none⟩), .string (p4 ++ p2)] (by rfl) rfl rfl (by (try simp only [List.map_toArray, List.map_cons, List.map_nil]); first | done | rfl) ?_
    refine (Bld.writeString w.heap.size gB (Lib.strCells ⟨#[]⟩) (p4 ++ p2) _ bdd (by rw [ByteArray.size_append]; simpa [Lib.strCells] using hsz) Bd.size).mono ?_
    rintro e we ⟨rfl, hat, hbB, hk⟩
    refine ⟨_, rfl, ?_⟩
    have bxe := hk _ _ bxd (fun e => hgb (Option.some.inj e)) (fun c fz e => by injection e with _ e2 _; cases e2)
    have bde : Lib.IsBuilderF 140 5 w.heap.size gB (Lib.strCells (p4 ++ p2)) we := .inr hat
    have Be := Bd.trans hbB
    clear hat hbB hk
    refine hK.out _ _ ⟨iO bxe 0, iO bxe 1⟩ (fun hHeld => ?_)
    clear hK K
    refine dX (a' := ?_) ?_ ?_
    rotate_left
    · show Act.put _ (some 27) _ = _
      simp only [Act.put, List.setIfInBounds_toArray, List.set_cons_zero, List.set_cons_succ, bO, bR]
      rfl
    refine iZ (gD HT_.out (by kernel_rfl)) ?_
    have BO := iO bxe 0
    have BP := iO bxe 1
    try go_wp2
    generalize p4 ++ p2 = acc0 at h bde ⊢
    go_loopg [31] Bz.length (fun kq v31 w' => ∃ (i : Nat) (acc : ByteArray), v31 = .int .i64 (i : Int) ∧ Aside0 (i + kq = Bz.length) ∧ Aside0 (some (acc, (0 : Int)) = some (r1, r2)) ∧ Aside0 (w'.heap[w.heap.size]? = some (.cells #[.int .u32 Bw, .slice BD Bz.length BF] 25 (0, 0))) ∧ Aside0 (Lib.IsBuilderF 140 5 w.heap.size gB (Lib.strCells acc) w') ∧ Aside0 (Below w.heap.size w w'))
    case atStart => exact ⟨0, acc0, rfl, ⟨by omega⟩, ⟨h⟩, ⟨bxe⟩, ⟨bde⟩, ⟨Be⟩⟩
    case round =>
      clear h bxe bde Be bx1 bxa bda Ba bxb bdb Bb bxc bdc Bc bxd bdd Bd BO BP hHeld
      obtain ⟨i, acc, rfl, hi, hE, bx, bd, B⟩ := hrel
      cases gk with
      | zero =>
        have hend : decide ((i : Int) < (Bz.length : Int)) = false := decide_eq_false (by have := hi.out; omega)
        have BK : decide (i < Bz.length) = false := decide_eq_false (by have := hi.out; omega)
        have BL : (i < Bz.length) = False := eq_false (by have := hi.out; omega)
        have hE' := hE.out
        have hr := Option.some.inj hE'
        injection hr with h1 h2
        subst h1 h2
        have hS := Tryz.Builder_String_any_k w.heap.size gB acc.data.toList _ (by rw [← kK]; exact bd.out) B.out.size
        go_wp2_with (go_at_call 69; refine hS.mono ?_; rintro e w2 ⟨rfl, _, hb2, _⟩)
        go_ret2
        exact ⟨rfl, B.out.trans hb2⟩
      | succ k1 => exact absurd hi.out (by have := BJ.out; omega)
end Go.Proofs.YtpncpefppifgdaaGreatDoor.GUt
