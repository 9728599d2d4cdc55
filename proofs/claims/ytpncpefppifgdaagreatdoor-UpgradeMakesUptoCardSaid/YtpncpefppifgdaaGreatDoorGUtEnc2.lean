/- ckone.Encode: its contract, in terms of plain functions. No conditions beside those stated. -/
import Derived.Test.YtpncpefppifgdaaGreatDoorBld
import Derived.Test.YtpncpefppifgdaaGreatDoorGUtx1
namespace Go.Proofs.YtpncpefppifgdaaGreatDoor.GUt
open Go.RowKit Go.Shelf Go.Proofs.YtpncpefppifgdaaGreatDoorW.PrintWords Go.Proofs.YtpncpefppifgdaaGreatDoorW.PrintLast Go.Proofs.YtpncpefppifgdaaGreatDoorW.PrintMore
set_option linter.unusedVariables false
set_option linter.unusedSimpArgs false
def dR.f (k : Nat) (Bu : Int) (BD : List S71) : Option (ByteArray × Int) := if BD.length = 0 then ((bX.f k 8 Bu).bind fun p => (bX.f k 2 (IntKind.u64.wrap (BD.length : Int))).bind fun q => if p.size + q.size ≤ 140737488355328 then some (p ++ q, 0) else none) else none
theorem dR.mono : ∀ Bu BD k, LeO (dR.f k Bu BD) (dR.f (k + 1) Bu BD) := fun Bu BD k =>
  LeO.ite (LeO.bind (bX.mono _ _ k) fun p => LeO.bind (bX.mono _ _ k) fun q => LeO.refl _) (LeO.refl _)
set_option maxHeartbeats 4000000 in
set_option maxRecDepth 100000 in
theorem xX.calls (Bu : Int) (Bw : Option Addr) (Bz n : Nat) (w : World) (hn : n = 0) :
    Calls Tryz.prog 73 #[.agg #[.int .u64 Bu, .slice Bw n Bz]] w fun e w' => e = .returned (.int .i64 0) ∧ Below w.heap.size w w' := by
  have HB := Aside0.mk ((Below.refl _ w).alloc (Nat.le_refl _) (.cells #[.int .u64 Bu, .slice Bw n Bz] 29))
  have e1 : decide ((1024 : Int) < (n : Int)) = false := decide_eq_false (by omega)
  have e2 : decide (1024 < n) = false := decide_eq_false (by omega)
  have e3 : decide ((0 : Int) < (n : Int)) = false := decide_eq_false (by omega)
  have e4 : decide (0 < n) = false := decide_eq_false (by omega)
  have HN := Aside0.mk hn
  clear hn
  go_enter Tryz.func73, Tryz.ntmps73
  go_wp2
  go_loopg [13] 0 (fun kq v12 w' => v12 = .int .i64 0 ∧ Aside0 (Below w.heap.size w w'))
  case atStart => exact ⟨rfl, HB⟩
  case round =>
    obtain ⟨rfl, B⟩ := hrel
    go_wp2
    go_ret
    exact ⟨rfl, B.out⟩
theorem oC {T e : TypeId} {B b : Nat} {bs : List Value} {w w' : World} (h : Lib.IsBuilderF T e B b bs w) (hb : Below w.heap.size w w') : Lib.IsBuilderF T e B b bs w' := by
  have one : ∀ p, Lib.BuilderAtF T e B b p bs w → Lib.BuilderAtF T e B b p bs w' := by
    rintro p ⟨hB, v, hh, ⟨hl, hv⟩, hne⟩
    refine ⟨hB, v, (hb.block b (Array.getElem?_eq_some_iff.1 hh).1).trans hh, ⟨hl, ?_⟩, hne⟩
    rcases hv with hv | ⟨g, cap, cur, fz, h1, h2, h3, h4⟩
    · exact .inl hv
    · exact .inr ⟨g, cap, cur, fz, h1, h2, (hb.block g (Array.getElem?_eq_some_iff.1 h3).1).trans h3, h4⟩
  exact h.elim (fun x => .inl (one _ x)) (fun x => .inr (one _ x))
theorem nE (a : ByteArray) : Lib.strCells a = Lib.byteCells a.data.toList := by
  first | rfl | simp [Lib.strCells, Lib.byteCells]
theorem wF (w : World) (B : Nat) (hB : B ≤ w.heap.size) : Lib.IsBuilderF 140 5 B w.heap.size (Lib.strCells ⟨#[]⟩) (w.alloc (.cells #[.pointer none, .slice none 0 0] 140)) :=
  .inl ⟨hB, .slice none 0 0, heap_alloc_new w _, ⟨rfl, .inl ⟨rfl, rfl⟩⟩, by simp [Value.ownBlock]⟩
def dR.T6 : Bool × List (List Nat × List Nat) := (true, [([], []), ([0], [0]), ([1], [1]), ([], []), ([3], [3]), ([4], [4]), ([5], [5]), ([6, 2], [6]), ([2, 7], [2, 7]), ([8, 7], [8])])
def dR.B6 : List Nat := [0, 1, 3, 0, 8, 24, 56, 127, 255, 511]
theorem dR.sD : gX .any (opsOf Tryz.f51 6) = dR.T6 := by kernel_rfl
theorem dR.oD : fU dR.T6.2 dR.B6 = true := by kernel_rfl
theorem iR {w : World} {b : Nat} {cs : Array Value} {t : TypeId} (h : w.heap[b]? = some (.cells cs t (0, 0))) (j : Nat) : w.cell? ⟨b, j, none⟩ = cs[j]? := by simp [World.cell?, h]
set_option maxHeartbeats 4000000 in
set_option maxRecDepth 100000 in
theorem dR.calls (k : Nat) (Bu : Int) (Bw : Option Addr) (Bz : Nat) (Bv : List S71) (r1 : ByteArray) (r2 : Int) (w : World) (BF : Kd.C k71 w Bw Bv.length Bv) (BG : Bv.length ≤ Bz) (h : dR.f k Bu Bv = some (r1, r2)) :
    Calls Tryz.prog 51 #[.agg #[.int .u64 Bu, .slice Bw Bv.length Bz]] w fun e w' => e = .returned (.tuple #[.string r1, .int .i64 r2]) ∧ Below w.heap.size w w' := by
  have hl0 : Bv.length = 0 := Decidable.by_contra fun hn => by rw [dR.f, if_neg hn] at h; cases h
  rw [dR.f, if_pos hl0] at h
  have BH := Aside0.mk hl0
  clear hl0
  have hmf : ∀ (fn : Fn) (first cap : Array Value) (w : World), (Instr.makeFunc fn first cap).run Tryz.prog w = .ok (.func fn first cap) w := fun _ _ _ _ => rfl
  go_enter Tryz.func51, Tryz.ntmps51
  ·
    obtain ⟨p4, BK, h⟩ := Option.bind_eq_some_iff.1 h
    obtain ⟨p2, hp2, h⟩ := Option.bind_eq_some_iff.1 h
    have hsz : p4.size + p2.size ≤ 140737488355328 := Decidable.by_contra fun hn => by rw [if_neg hn] at h; cases h
    rw [if_pos hsz] at h
    have hc0 : ((0 : Int) != 0) = false := rfl
    have hov : (9223372036854775807 < p4.size + p2.size) = False := eq_false (by omega)
    go_wp2_with (go_at_call 73; refine (xX.calls Bu Bw Bz Bv.length _ BH.out).mono ?_; rintro e w1 ⟨rfl, hb1⟩)
    have bx1 : w1.heap[w.heap.size]? = some (.cells #[.int .u64 Bu, .slice Bw Bv.length Bz] 29 (0, 0)) := (hb1.block _ (by simp)).trans (heap_alloc_new w _)
    have hle : w.heap.size + 1 ≤ w1.heap.size := by have := hb1.size; simpa using this
    have B1 : Below w.heap.size w w1 := ((Below.refl _ w).alloc (Nat.le_refl _) _).trans (hb1.mono (by simp))
    have bxa := (Below.heap_alloc w1 (.cells #[.pointer none, .slice none 0 0] 140) w.heap.size (by omega)).trans bx1
    have bda := wF w1 w.heap.size (by omega)
    have Ba : Below w.heap.size w (w1.alloc (.cells #[.pointer none, .slice none 0 0] 140)) := B1.alloc (by omega) _
    have hgb : w.heap.size ≠ w1.heap.size := by omega
    refine iE (n := 10) (S := fun w' => w'.cell? ⟨w.heap.size, 0, none⟩ = some (.int .u64 Bu) ∧ w'.cell? ⟨w.heap.size, 1, none⟩ = some (.slice Bw Bv.length Bz)) (ds := []) #[false, false, false, false, false, false, false, false, false, false] (by kernel_rfl) rfl rfl ⟨iR bxa 0, iR bxa 1⟩ (fun hHeld => ?_); refine fC dR.sD dR.oD (fun HT_ HW_ => ?_)
    obtain ⟨wb, hwb⟩ : ∃ wb, (w1.alloc (.cells #[.pointer none, .slice none 0 0] 140)).drew = wb := ⟨_, rfl⟩
    have bxb : wb.heap[w.heap.size]? = some (.cells #[.int .u64 Bu, .slice Bw Bv.length Bz] 29 (0, 0)) := by rw [← hwb]; exact bxa
    have bdb : Lib.IsBuilderF 140 5 w.heap.size w1.heap.size (Lib.strCells ⟨#[]⟩) wb := by rw [← hwb]; exact bda
    have Bb : Below w.heap.size w wb := by rw [← hwb]; exact bF Ba
    rw [hwb] at hHeld ⊢
    clear hwb
    generalize w1.heap.size = gB at bdb hgb ⊢
    refine eX (i := 0) (N := some 17) (v := ?_) (a' := ?_) #[true, false, false, false, false, false, false, false, false, false] rfl rfl (dV HT_.out (by kernel_rfl)) (fun _ _ _ h => h) (Or.inl ⟨by rfl, ?_⟩) ?_ ?_
    rotate_left
    · intro w'
      go_simp
      with_reducible rfl
    rotate_left
    · simp only [Act.put, List.setIfInBounds_toArray, List.set_cons_zero, List.set_cons_succ, bJ, bK]
      rfl
    refine eX (i := 3) (N := some 20) (v := ?_) (a' := ?_) #[true, false, false, true, false, false, false, false, false, false] rfl rfl (dV HT_.out (by kernel_rfl)) (fun _ _ _ h => h) (Or.inl ⟨by rfl, ?_⟩) ?_ ?_
    rotate_left
    · intro w'
      go_simp
      with_reducible rfl
    rotate_left
    · simp only [Act.put, List.setIfInBounds_toArray, List.set_cons_zero, List.set_cons_succ, bJ, bK]
      rfl
    refine gG (i := 1) (N := some 18) (v := ?_) (a' := ?_) #[true, true, false, true, false, false, false, false, false, false] rfl rfl (d9 HT_.out HW_.out (by kernel_rfl)) (fun _ _ _ h => h) (Or.inl ⟨by rfl, ?_⟩) hHeld ?_ ?_
    rotate_left
    · rintro w' ⟨s0, s1⟩
      go_simp
      with_reducible rfl
    rotate_left
    · simp only [Act.put, List.setIfInBounds_toArray, List.set_cons_zero, List.set_cons_succ, bJ, bK]
      rfl
    refine gG (i := 4) (N := some 21) (v := ?_) (a' := ?_) #[true, true, false, true, true, false, false, false, false, false] rfl rfl (d9 HT_.out HW_.out (by kernel_rfl)) (fun _ _ _ h => h) (Or.inl ⟨by rfl, ?_⟩) hHeld ?_ ?_
    rotate_left
    · rintro w' ⟨s0, s1⟩
      go_simp
      with_reducible rfl
    rotate_left
    · simp only [Act.put, List.setIfInBounds_toArray, List.set_cons_zero, List.set_cons_succ, bJ, bK]
      rfl
    refine eX (i := 5) (N := some 22) (v := ?_) (a' := ?_) #[true, true, false, true, true, true, false, false, false, false] rfl rfl (dV HT_.out (by kernel_rfl)) (fun _ _ _ h => h) (Or.inl ⟨by rfl, ?_⟩) ?_ ?_
    rotate_left
    · intro w'
      go_simp
      with_reducible rfl
    rotate_left
    · simp only [Act.put, List.setIfInBounds_toArray, List.set_cons_zero, List.set_cons_succ, bJ, bK]
      rfl
    refine eX (i := 6) (N := some 23) (v := ?_) (a' := ?_) #[true, true, false, true, true, true, true, false, false, false] rfl rfl (dV HT_.out (by kernel_rfl)) (fun _ _ _ h => h) (Or.inl ⟨by rfl, ?_⟩) ?_ ?_
    rotate_left
    · intro w'
      go_simp
      with_reducible rfl
    rotate_left
    · simp only [Act.put, List.setIfInBounds_toArray, List.set_cons_zero, List.set_cons_succ, bJ, bK]
      rfl
    refine fE (i := 2) (N := some 19) #[true, true, true, true, true, true, true, false, false, false] rfl rfl (dh HT_.out (by kernel_rfl)) (by decide) (fun K hK => ?_)
    refine eH Tryz.func67 (by kernel_rfl) rfl #[.int .i64 8, .int .u64 Bu] (by rfl) rfl rfl (by (try simp only [List.map_toArray, List.map_cons, List.map_nil]); first | done | rfl) ?_
    refine (bX.calls k 8 Bu p4 _ BK).mono ?_
    rintro e wc ⟨rfl, hb⟩
    refine ⟨_, rfl, ?_⟩
    have bxc := (hb.block _ (Array.getElem?_eq_some_iff.1 bxb).1).trans bxb
    have bdc := oC bdb hb
    have Bc := Bb.trans (hb.mono Bb.size)
    clear hb
    refine hK.out _ _ ⟨iR bxc 0, iR bxc 1⟩ (fun hHeld => ?_)
    clear hK K
    refine dS (a' := ?_) ?_ ?_
    rotate_left
    · show Act.put _ (some 19) _ = _
      simp only [Act.put, List.setIfInBounds_toArray, List.set_cons_zero, List.set_cons_succ, bJ, bK]
      rfl
    refine fE (i := 7) (N := some 24) #[true, true, true, true, true, true, true, true, false, false] rfl rfl (dh HT_.out (by kernel_rfl)) (by decide) (fun K hK => ?_)
    refine eH Tryz.func67 (by kernel_rfl) rfl #[.int .i64 2, .int .u64 (IntKind.u64.wrap (Bv.length : Int))] (by rfl) rfl rfl (by (try simp only [List.map_toArray, List.map_cons, List.map_nil]); first | done | rfl) ?_
    refine (bX.calls k 2 (IntKind.u64.wrap (Bv.length : Int)) p2 _ hp2).mono ?_
    rintro e wd ⟨rfl, hb⟩
    refine ⟨_, rfl, ?_⟩
    have bxd := (hb.block _ (Array.getElem?_eq_some_iff.1 bxc).1).trans bxc
    have bdd := oC bdc hb
    have Bd := Bc.trans (hb.mono Bc.size)
    clear hb
    refine hK.out _ _ ⟨iR bxd 0, iR bxd 1⟩ (fun hHeld => ?_)
    clear hK K
    refine dS (a' := ?_) ?_ ?_
    rotate_left
    · show Act.put _ (some 24) _ = _
      simp only [Act.put, List.setIfInBounds_toArray, List.set_cons_zero, List.set_cons_succ, bJ, bK]
      rfl
    refine eX (i := 8) (N := some 25) (v := ?_) (a' := ?_) #[true, true, true, true, true, true, true, true, true, false] rfl rfl (dV HT_.out (by kernel_rfl)) (fun _ _ _ h => h) (Or.inl ⟨by rfl, ?_⟩) ?_ ?_
    rotate_left
    · intro w'
      go_simp
      with_reducible rfl
    rotate_left
    · simp only [Act.put, List.setIfInBounds_toArray, List.set_cons_zero, List.set_cons_succ, bJ, bK]
      rfl
    refine fE (i := 9) (N := some 26) #[true, true, true, true, true, true, true, true, true, true] rfl rfl (dh HT_.out (by kernel_rfl)) (by decide) (fun K hK => ?_)
    refine eH Tryz.func66 (by kernel_rfl) rfl #[.pointer (some ⟨gB, 0, none⟩), .string (p4 ++ p2)] (by rfl) rfl rfl (by (try simp only [List.map_toArray, List.map_cons, List.map_nil]); first | done | rfl) ?_
    refine (Bld.writeString w.heap.size gB (Lib.strCells ⟨#[]⟩) (p4 ++ p2) _ bdd (by rw [ByteArray.size_append]; simpa [Lib.strCells] using hsz) Bd.size).mono ?_
    rintro e we ⟨rfl, hat, hbB, hk⟩
    refine ⟨_, rfl, ?_⟩
    have bxe := hk _ _ bxd (fun e => hgb (Option.some.inj e)) (fun c fz e => by injection e with _ e2 _; cases e2)
    have bde : Lib.IsBuilderF 140 5 w.heap.size gB (Lib.strCells (p4 ++ p2)) we := .inr hat
    have Be := Bd.trans hbB
    clear hat hbB hk
    refine hK.out _ _ ⟨iR bxe 0, iR bxe 1⟩ (fun hHeld => ?_)
    clear hK K
    refine dS (a' := ?_) ?_ ?_
    rotate_left
    · show Act.put _ (some 26) _ = _
      simp only [Act.put, List.setIfInBounds_toArray, List.set_cons_zero, List.set_cons_succ, bJ, bK]
      rfl
    refine jd (gI HT_.out (by kernel_rfl)) ?_
    have BL := iR bxe 0
    have BN := iR bxe 1
    try go_wp2
    generalize p4 ++ p2 = acc0 at h bde ⊢
    go_loopg [30] Bv.length (fun kq v30 w' => ∃ (i : Nat) (acc : ByteArray), v30 = .int .i64 (i : Int) ∧ Aside0 (i + kq = Bv.length) ∧ Aside0 (some (acc, (0 : Int)) = some (r1, r2)) ∧ Aside0 (w'.heap[w.heap.size]? = some (.cells #[.int .u64 Bu, .slice Bw Bv.length Bz] 29 (0, 0))) ∧ Aside0 (Lib.IsBuilderF 140 5 w.heap.size gB (Lib.strCells acc) w') ∧ Aside0 (Below w.heap.size w w'))
    case atStart => exact ⟨0, acc0, rfl, ⟨by omega⟩, ⟨h⟩, ⟨bxe⟩, ⟨bde⟩, ⟨Be⟩⟩
    case round =>
      clear h bxe bde Be bx1 bxa bda Ba bxb bdb Bb bxc bdc Bc bxd bdd Bd BL BN hHeld
      obtain ⟨i, acc, rfl, hi, hE, bx, bd, B⟩ := hrel
      cases gk with
      | zero =>
        have hend : decide ((i : Int) < (Bv.length : Int)) = false := decide_eq_false (by have := hi.out; omega)
        have BI : decide (i < Bv.length) = false := decide_eq_false (by have := hi.out; omega)
        have BJ : (i < Bv.length) = False := eq_false (by have := hi.out; omega)
        have hE' := hE.out
        have hr := Option.some.inj hE'
        injection hr with h1 h2
        subst h1 h2
        have hS := Tryz.Builder_String_any_k w.heap.size gB acc.data.toList _ (by rw [← nE]; exact bd.out) B.out.size
        go_wp2_with (go_at_call 69; refine hS.mono ?_; rintro e w2 ⟨rfl, _, hb2, _⟩)
        go_ret2
        exact ⟨rfl, B.out.trans hb2⟩
      | succ k1 => exact absurd hi.out (by have := BH.out; omega)
end Go.Proofs.YtpncpefppifgdaaGreatDoor.GUt
