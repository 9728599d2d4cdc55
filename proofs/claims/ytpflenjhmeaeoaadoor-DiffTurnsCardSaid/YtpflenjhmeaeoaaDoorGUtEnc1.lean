/- ckone.Encode: its contract, in terms of plain functions. No conditions beside those stated. -/
import Derived.Test.YtpflenjhmeaeoaaDoorBld
import Derived.Test.YtpflenjhmeaeoaaDoorGUtx16
namespace Go.Proofs.YtpflenjhmeaeoaaDoor.GUt
open Go.RowKit Go.Shelf Go.Proofs.YtpflenjhmeaeoaaDoorW.PrintWords Go.Proofs.YtpflenjhmeaeoaaDoorW.PrintLast Go.Proofs.YtpflenjhmeaeoaaDoorW.PrintMore
set_option linter.unusedVariables false
set_option linter.unusedSimpArgs false
def dF.f (k : Nat) (Al : Int) (Aq : List S158) : Option (ByteArray × Int) := if Aq.length = 0 then ((bZ.f k 4 (IntKind.u64.wrap Al)).bind fun p => (bZ.f k 2 (IntKind.u64.wrap (Aq.length : Int))).bind fun q => if p.size + q.size ≤ 140737488355328 then some (p ++ q, 0) else none) else none
theorem dF.mono : ∀ Al Aq k, LeO (dF.f k Al Aq) (dF.f (k + 1) Al Aq) := fun Al Aq k =>
  LeO.ite (LeO.bind (bZ.mono _ _ k) fun p => LeO.bind (bZ.mono _ _ k) fun q => LeO.refl _) (LeO.refl _)
set_option maxHeartbeats 4000000 in
set_option maxRecDepth 100000 in
theorem yR.calls (Al : Int) (Ao : Option Addr) (Ap n : Nat) (w : World) (hn : n = 0) :
    Calls Tryd.prog 110 #[.agg #[.int .u32 Al, .slice Ao n Ap]] w fun e w' => e = .returned (.int .i64 0) ∧ Below w.heap.size w w' := by
  have HB := Aside0.mk ((Below.refl _ w).alloc (Nat.le_refl _) (.cells #[.int .u32 Al, .slice Ao n Ap] 152))
  have e1 : decide ((1024 : Int) < (n : Int)) = false := decide_eq_false (by omega)
  have e2 : decide (1024 < n) = false := decide_eq_false (by omega)
  have e3 : decide ((0 : Int) < (n : Int)) = false := decide_eq_false (by omega)
  have e4 : decide (0 < n) = false := decide_eq_false (by omega)
  have HN := Aside0.mk hn
  clear hn
  go_enter Tryd.func110, Tryd.ntmps110
  go_wp2
  go_loopg [12] 0 (fun kq v12 w' => v12 = .int .i64 0 ∧ Aside0 (Below w.heap.size w w'))
  case atStart => exact ⟨rfl, HB⟩
  case round =>
    obtain ⟨rfl, B⟩ := hrel
    go_wp2
    go_ret
    exact ⟨rfl, B.out⟩
theorem j6 {T e : TypeId} {B b : Nat} {bs : List Value} {w w' : World} (h : Lib.IsBuilderF T e B b bs w) (hb : Below w.heap.size w w') : Lib.IsBuilderF T e B b bs w' := by
  have one : ∀ p, Lib.BuilderAtF T e B b p bs w → Lib.BuilderAtF T e B b p bs w' := by
    rintro p ⟨hB, v, hh, ⟨hl, hv⟩, hne⟩
    refine ⟨hB, v, (hb.block b (Array.getElem?_eq_some_iff.1 hh).1).trans hh, ⟨hl, ?_⟩, hne⟩
    rcases hv with hv | ⟨g, cap, cur, fz, h1, h2, h3, h4⟩
    · exact .inl hv
    · exact .inr ⟨g, cap, cur, fz, h1, h2, (hb.block g (Array.getElem?_eq_some_iff.1 h3).1).trans h3, h4⟩
  exact h.elim (fun x => .inl (one _ x)) (fun x => .inr (one _ x))
theorem mM (a b : ByteArray) : Lib.strCells a ++ Lib.strCells b = Lib.strCells (a ++ b) := by
  simp [Lib.strCells]
theorem kr (a : ByteArray) : Lib.strCells a = Lib.byteCells a.data.toList := by
  first | rfl | simp [Lib.strCells, Lib.byteCells]
theorem vV (w : World) (B : Nat) (hB : B ≤ w.heap.size) : Lib.IsBuilderF 131 5 B w.heap.size (Lib.strCells ⟨#[]⟩) (w.alloc (.cells #[.pointer none, .slice none 0 0] 131)) :=
  .inl ⟨hB, .slice none 0 0, heap_alloc_new w _, ⟨rfl, .inl ⟨rfl, rfl⟩⟩, by simp [Value.ownBlock]⟩
def dF.T5 : Bool × List (List Nat × List Nat) := (true, [([], []), ([0], [0]), ([1], [1]), ([2], [2]), ([], []), ([4], [4]), ([5], [5]), ([6], [6]), ([7, 3], [7]), ([3, 8], [3, 8]), ([9, 8], [9])])
def dF.B5 : List Nat := [0, 1, 3, 7, 0, 16, 48, 112, 255, 511, 1023]
theorem dF.qy : gM .any (opsOf Tryd.f98 5) = dF.T5 := by kernel_rfl
theorem dF.l8 : eY dF.T5.2 dF.B5 = true := by kernel_rfl
theorem iP {w : World} {b : Nat} {cs : Array Value} {t : TypeId} (h : w.heap[b]? = some (.cells cs t (0, 0))) (j : Nat) : w.cell? ⟨b, j, none⟩ = cs[j]? := by simp [World.cell?, h]
set_option maxHeartbeats 4000000 in
set_option maxRecDepth 100000 in
theorem dF.calls (k : Nat) (Al : Int) (Ao : Option Addr) (Ap : Nat) (Am : List S158) (r1 : ByteArray) (r2 : Int) (w : World) (Au : Kd.C zZ w Ao Am.length Am) (Aw : Am.length ≤ Ap) (h : dF.f k Al Am = some (r1, r2)) :
    Calls Tryd.prog 98 #[.agg #[.int .u32 Al, .slice Ao Am.length Ap]] w fun e w' => e = .returned (.tuple #[.string r1, .int .i64 r2]) ∧ Below w.heap.size w w' := by
  have hl0 : Am.length = 0 := Decidable.by_contra fun hn => by rw [dF.f, if_neg hn] at h; cases h
  rw [dF.f, if_pos hl0] at h
  have Ay := Aside0.mk hl0
  clear hl0
  go_enter Tryd.func98, Tryd.ntmps98
  ·
    obtain ⟨p4, AB, h⟩ := Option.bind_eq_some_iff.1 h
    obtain ⟨p2, hp2, h⟩ := Option.bind_eq_some_iff.1 h
    have hsz : p4.size + p2.size ≤ 140737488355328 := Decidable.by_contra fun hn => by rw [if_neg hn] at h; cases h
    rw [if_pos hsz] at h
    have hc0 : ((0 : Int) != 0) = false := rfl
    have hov : (9223372036854775807 < p4.size + p2.size) = False := eq_false (by omega)
    go_wp2_with (go_at_call 110; refine (yR.calls Al Ao Ap Am.length _ Ay.out).mono ?_; rintro e w1 ⟨rfl, hb1⟩)
    have bx1 : w1.heap[w.heap.size]? = some (.cells #[.int .u32 Al, .slice Ao Am.length Ap] 152 (0, 0)) := (hb1.block _ (by simp)).trans (heap_alloc_new w _)
    have hle : w.heap.size + 1 ≤ w1.heap.size := by have := hb1.size; simpa using this
    have B1 : Below w.heap.size w w1 := ((Below.refl _ w).alloc (Nat.le_refl _) _).trans (hb1.mono (by simp))
    have bxa := (Below.heap_alloc w1 (.cells #[.pointer none, .slice none 0 0] 131) w.heap.size (by omega)).trans bx1
    have bda := vV w1 w.heap.size (by omega)
    have Ba : Below w.heap.size w (w1.alloc (.cells #[.pointer none, .slice none 0 0] 131)) := B1.alloc (by omega) _
    have hgb : w.heap.size ≠ w1.heap.size := by omega
    refine fu (n := 11) (S := fun w' => w'.cell? ⟨w.heap.size, 0, none⟩ = some (.int .u32 Al) ∧ w'.cell? ⟨w.heap.size, 1, none⟩ = some (.slice Ao Am.length Ap)) (ds := []) #[false, false, false, false, false, false, false, false, false, false, false] (by kernel_rfl) rfl rfl ⟨iP bxa 0, iP bxa 1⟩ (fun hHeld => ?_); refine dR dF.qy dF.l8 (fun HT_ HW_ => ?_)
    obtain ⟨wb, hwb⟩ : ∃ wb, (w1.alloc (.cells #[.pointer none, .slice none 0 0] 131)).drew = wb := ⟨_, rfl⟩
    have bxb : wb.heap[w.heap.size]? = some (.cells #[.int .u32 Al, .slice Ao Am.length Ap] 152 (0, 0)) := by rw [← hwb]; exact bxa
    have bdb : Lib.IsBuilderF 131 5 w.heap.size w1.heap.size (Lib.strCells ⟨#[]⟩) wb := by rw [← hwb]; exact bda
    have Bb : Below w.heap.size w wb := by rw [← hwb]; exact aZ Ba
    rw [hwb] at hHeld ⊢
    clear hwb
    generalize w1.heap.size = gB at bdb hgb ⊢
    refine eD (i := 0) (N := some 17) (v := ?_) (a' := ?_) #[true, false, false, false, false, false, false, false, false, false, false] rfl rfl (eU HT_.out (by kernel_rfl)) (fun _ _ _ h => h) (Or.inl ⟨by rfl, ?_⟩) ?_ ?_
    rotate_left
    · intro w'
      go_simp
      with_reducible rfl
    rotate_left
    · simp only [Act.put, List.setIfInBounds_toArray, List.set_cons_zero, List.set_cons_succ, bH, bI]
      rfl
    refine eD (i := 4) (N := some 21) (v := ?_) (a' := ?_) #[true, false, false, false, true, false, false, false, false, false, false] rfl rfl (eU HT_.out (by kernel_rfl)) (fun _ _ _ h => h) (Or.inl ⟨by rfl, ?_⟩) ?_ ?_
    rotate_left
    · intro w'
      go_simp
      with_reducible rfl
    rotate_left
    · simp only [Act.put, List.setIfInBounds_toArray, List.set_cons_zero, List.set_cons_succ, bH, bI]
      rfl
    refine iy (i := 1) (N := some 18) (v := ?_) (a' := ?_) #[true, true, false, false, true, false, false, false, false, false, false] rfl rfl (fq HT_.out HW_.out (by kernel_rfl)) (fun _ _ _ h => h) (Or.inl ⟨by rfl, ?_⟩) hHeld ?_ ?_
    rotate_left
    · rintro w' ⟨s0, s1⟩
      go_simp
      with_reducible rfl
    rotate_left
    · simp only [Act.put, List.setIfInBounds_toArray, List.set_cons_zero, List.set_cons_succ, bH, bI]
      rfl
    refine eD (i := 2) (N := some 19) (v := ?_) (a' := ?_) #[true, true, true, false, true, false, false, false, false, false, false] rfl rfl (eU HT_.out (by kernel_rfl)) (fun _ _ _ h => h) (Or.inl ⟨by rfl, ?_⟩) ?_ ?_
    rotate_left
    · intro w'
      go_simp
      with_reducible rfl
    rotate_left
    · simp only [Act.put, List.setIfInBounds_toArray, List.set_cons_zero, List.set_cons_succ, bH, bI]
      rfl
    refine iy (i := 5) (N := some 22) (v := ?_) (a' := ?_) #[true, true, true, false, true, true, false, false, false, false, false] rfl rfl (fq HT_.out HW_.out (by kernel_rfl)) (fun _ _ _ h => h) (Or.inl ⟨by rfl, ?_⟩) hHeld ?_ ?_
    rotate_left
    · rintro w' ⟨s0, s1⟩
      go_simp
      with_reducible rfl
    rotate_left
    · simp only [Act.put, List.setIfInBounds_toArray, List.set_cons_zero, List.set_cons_succ, bH, bI]
      rfl
    refine eD (i := 6) (N := some 23) (v := ?_) (a' := ?_) #[true, true, true, false, true, true, true, false, false, false, false] rfl rfl (eU HT_.out (by kernel_rfl)) (fun _ _ _ h => h) (Or.inl ⟨by rfl, ?_⟩) ?_ ?_
    rotate_left
    · intro w'
      go_simp
      with_reducible rfl
    rotate_left
    · simp only [Act.put, List.setIfInBounds_toArray, List.set_cons_zero, List.set_cons_succ, bH, bI]
      rfl
    refine eD (i := 7) (N := some 24) (v := ?_) (a' := ?_) #[true, true, true, false, true, true, true, true, false, false, false] rfl rfl (eU HT_.out (by kernel_rfl)) (fun _ _ _ h => h) (Or.inl ⟨by rfl, ?_⟩) ?_ ?_
    rotate_left
    · intro w'
      go_simp
      with_reducible rfl
    rotate_left
    · simp only [Act.put, List.setIfInBounds_toArray, List.set_cons_zero, List.set_cons_succ, bH, bI]
      rfl
    refine gG (i := 3) (N := some 20) #[true, true, true, true, true, true, true, true, false, false, false] rfl rfl (dw HT_.out (by kernel_rfl)) (by decide) (fun K hK => ?_)
    refine eZ Tryd.func108 (by kernel_rfl) rfl #[.int .i64 4, .int .u64 (IntKind.u64.wrap Al)] (by rfl) rfl rfl (by (try simp only [List.map_toArray, List.map_cons, List.map_nil]); first | done | rfl) ?_
    refine (bZ.calls k 4 (IntKind.u64.wrap Al) p4 _ AB).mono ?_
    rintro e wc ⟨rfl, hb⟩
    refine ⟨_, rfl, ?_⟩
    have bxc := (hb.block _ (Array.getElem?_eq_some_iff.1 bxb).1).trans bxb
    have bdc := j6 bdb hb
    have Bc := Bb.trans (hb.mono Bb.size)
    clear hb
    refine hK.out _ _ ⟨iP bxc 0, iP bxc 1⟩ (fun hHeld => ?_)
    clear hK K
    refine dU (a' := ?_) ?_ ?_
    rotate_left
    · show Act.put _ (some 20) _ = _
      simp only [Act.put, List.setIfInBounds_toArray, List.set_cons_zero, List.set_cons_succ, bH, bI]
      rfl
    refine gG (i := 8) (N := some 25) #[true, true, true, true, true, true, true, true, true, false, false] rfl rfl (dw HT_.out (by kernel_rfl)) (by decide) (fun K hK => ?_)
    refine eZ Tryd.func108 (by kernel_rfl) rfl #[.int .i64 2, .int .u64 (IntKind.u64.wrap (Am.length : Int))] (by rfl) rfl rfl (by (try simp only [List.map_toArray, List.map_cons, List.map_nil]); first | done | rfl) ?_
    refine (bZ.calls k 2 (IntKind.u64.wrap (Am.length : Int)) p2 _ hp2).mono ?_
    rintro e wd ⟨rfl, hb⟩
    refine ⟨_, rfl, ?_⟩
    have bxd := (hb.block _ (Array.getElem?_eq_some_iff.1 bxc).1).trans bxc
    have bdd := j6 bdc hb
    have Bd := Bc.trans (hb.mono Bc.size)
    clear hb
    refine hK.out _ _ ⟨iP bxd 0, iP bxd 1⟩ (fun hHeld => ?_)
    clear hK K
    refine dU (a' := ?_) ?_ ?_
    rotate_left
    · show Act.put _ (some 25) _ = _
      simp only [Act.put, List.setIfInBounds_toArray, List.set_cons_zero, List.set_cons_succ, bH, bI]
      rfl
    refine eD (i := 9) (N := some 26) (v := ?_) (a' := ?_) #[true, true, true, true, true, true, true, true, true, true, false] rfl rfl (eU HT_.out (by kernel_rfl)) (fun _ _ _ h => h) (Or.inl ⟨by rfl, ?_⟩) ?_ ?_
    rotate_left
    · intro w'
      go_simp
      with_reducible rfl
    rotate_left
    · simp only [Act.put, List.setIfInBounds_toArray, List.set_cons_zero, List.set_cons_succ, bH, bI]
      rfl
    refine gG (i := 10) (N := some 27) #[true, true, true, true, true, true, true, true, true, true, true] rfl rfl (dw HT_.out (by kernel_rfl)) (by decide) (fun K hK => ?_)
    refine eZ Tryd.func85 (by kernel_rfl) rfl #[.pointer (some ⟨gB, 0, none⟩), .string (p4 ++ p2)] (by rfl) rfl rfl (by (try simp only [List.map_toArray, List.map_cons, List.map_nil]); first | done | rfl) ?_
    refine (Bld.writeString w.heap.size gB (Lib.strCells ⟨#[]⟩) (p4 ++ p2) _ bdd (by rw [ByteArray.size_append]; simpa [Lib.strCells] using hsz) Bd.size).mono ?_
    rintro e we ⟨rfl, hat, hbB, hk⟩
    refine ⟨_, rfl, ?_⟩
    have bxe := hk _ _ bxd (fun e => hgb (Option.some.inj e)) (fun c fz e => by injection e with _ e2 _; cases e2)
    have bde : Lib.IsBuilderF 131 5 w.heap.size gB (Lib.strCells (p4 ++ p2)) we := .inr hat
    have Be := Bd.trans hbB
    clear hat hbB hk
    refine hK.out _ _ ⟨iP bxe 0, iP bxe 1⟩ (fun hHeld => ?_)
    clear hK K
    refine dU (a' := ?_) ?_ ?_
    rotate_left
    · show Act.put _ (some 27) _ = _
      simp only [Act.put, List.setIfInBounds_toArray, List.set_cons_zero, List.set_cons_succ, bH, bI]
      rfl
    refine gJ (eH HT_.out (by kernel_rfl)) ?_
    have AJ := iP bxe 0
    have AL := iP bxe 1
    try go_wp2
    generalize p4 ++ p2 = acc0 at h bde ⊢
    go_loopg [31] Am.length (fun kq v31 w' => ∃ (i : Nat) (acc : ByteArray), v31 = .int .i64 (i : Int) ∧ Aside0 (i + kq = Am.length) ∧ Aside0 (some (acc, (0 : Int)) = some (r1, r2)) ∧ Aside0 (w'.heap[w.heap.size]? = some (.cells #[.int .u32 Al, .slice Ao Am.length Ap] 152 (0, 0))) ∧ Aside0 (Lib.IsBuilderF 131 5 w.heap.size gB (Lib.strCells acc) w') ∧ Aside0 (Below w.heap.size w w'))
    case atStart => exact ⟨0, acc0, rfl, ⟨by omega⟩, ⟨h⟩, ⟨bxe⟩, ⟨bde⟩, ⟨Be⟩⟩
    case round =>
      clear h bxe bde Be bx1 bxa bda Ba bxb bdb Bb bxc bdc Bc bxd bdd Bd AJ AL hHeld
      obtain ⟨i, acc, rfl, hi, hE, bx, bd, B⟩ := hrel
      cases gk with
      | zero =>
        have hend : decide ((i : Int) < (Am.length : Int)) = false := decide_eq_false (by have := hi.out; omega)
        have Az : decide (i < Am.length) = false := decide_eq_false (by have := hi.out; omega)
        have AA : (i < Am.length) = False := eq_false (by have := hi.out; omega)
        have hE' := hE.out
        have hr := Option.some.inj hE'
        injection hr with h1 h2
        subst h1 h2
        have hS := Tryd.Builder_String_any_k w.heap.size gB acc.data.toList _ (by rw [← kr]; exact bd.out) B.out.size
        go_wp2_with (go_at_call 86; refine hS.mono ?_; rintro e w2 ⟨rfl, _, hb2, _⟩)
        go_ret2
        exact ⟨rfl, B.out.trans hb2⟩
      | succ k1 => exact absurd hi.out (by have := Ay.out; omega)
end Go.Proofs.YtpflenjhmeaeoaaDoor.GUt
