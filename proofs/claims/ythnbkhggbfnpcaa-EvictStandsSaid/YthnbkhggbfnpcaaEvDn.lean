/- container/heap's down over the row behind its pointer: its contract. container/heap's down: the walk. No conditions beside those stated. -/
import Derived.Test.YthnbkhggbfnpcaaEvMeth
import Derived.Test.YthnbkhggbfnpcaaGEvx2
import Derived.Test.YthnbkhggbfnpcaaGEvx3
import Derived.Shelf.Abstract
namespace Go.Proofs.Ythnbkhggbfnpcaa.Ev
open Go.RowKit Go.Proofs.YthnbkhggbfnpcaaW.PrintWords Go.Proofs.YthnbkhggbfnpcaaW.PrintLast Go.Proofs.YthnbkhggbfnpcaaW.PrintMore Go.Proofs.Ythnbkhggbfnpcaa.GEv
set_option linter.unusedVariables false
set_option linter.unusedSimpArgs false
def aheadI (x y : S55) : Bool := aheadB x.f0.f0 x.f0.f1 x.f0.f2 y.f0.f0 y.f0.f1 y.f0.f2
def lessI : S55 → S55 → Bool := lex aheadI (fun x y => decide (x.f1 < y.f1))
theorem row_len (f : Nat → S55) (m : Nat) : (row f m).length = m := by simp [row]
theorem row_rd (f : Nat → S55) (m : Nat) (i : Int) (h0 : 0 ≤ i) (h1 : i < m) : rd_T55 (row f m) i = f i.toNat := by
  have h : i.toNat < m := by omega
  simp [rd_T55, row, List.getD, h]
theorem set_row (f : Nat → S55) (m i : Nat) (x : S55) : (row f m).set i x = row (fun k => if k = i then x else f k) m := by
  apply List.ext_getElem
  · simp [row]
  · intro k h1 h2
    simp only [row, List.getElem_set, List.getElem_map, List.getElem_range]
    by_cases e : i = k
    · subst e; simp
    · rw [if_neg e, if_neg (fun q => e q.symm)]
theorem swap_of (f : Nat → S55) (m i j : Nat) (hi : i < m) (hj : j < m) : ((row f m).set i (f j)).set j (f i) = row (swapF f i j) m := by
  rw [set_row, set_row]
  congr 1
  funext k
  simp only [swapF]
  by_cases e : k = j
  · subst e
    by_cases q : k = i
    · subst q; simp
    · simp [q]
  · simp [e]
/-- The row of items behind the pointer g. -/
structure HS (w0 W : World) (g : Nat) (v : Value) (xs : List S55) : Prop where
  box : W.heap[g]? = some (.cells #[v] 53 (0, 0))
  ge : w0.heap.size ≤ g
  ne : v.ownBlock ≠ some g
  row : Kd.R k55 55 W w0.heap.size (fun k => some k = v.ownBlock) v xs
  bel : Below w0.heap.size w0 W
theorem R_any {w0 W : World} {ok : Nat → Prop} {v : Value} {xs : List S55} (h : Kd.R k55 55 W w0.heap.size ok v xs) : Kd.R k55 55 W w0.heap.size (fun k => some k = v.ownBlock) v xs :=
  ⟨fun k hk => hk.symm, h.2.imp_ (fun x cs hp => by obtain rfl := k55_openM hp; exact k55_mkM _ _ _ _)⟩
section
variable {w0 W W1 : World} {g : Nat} {v : Value} {xs : List S55} {A : Option Addr} {c m : Nat} {f : Nat → S55}
theorem HS.cell (h : HS w0 W g v xs) : W.cell? ⟨g, 0, none⟩ = some v := (blk_cell h.box 0).trans rfl
theorem HS.below (h : HS w0 W g v xs) (hb : Below W.heap.size W W1) : HS w0 W1 g v xs :=
  ⟨blk_below h.box hb, h.ge, h.ne, Kd.R_below h.row hb, below_step h.bel hb⟩
theorem HS.drewN (h : HS w0 W g v xs) (n : Nat) : HS w0 (W.drewN n) g v xs := h.below (Drawn0.below ⟨⟨n, rfl⟩⟩)
theorem len_at (h : HS w0 W g (.slice A m c) (Ev.row f m)) : Calls Try.prog 24 #[.slice A m c] W fun e w' => e = .returned (.int .i64 m) ∧ w' = W := Len.calls A m c W
theorem less_at (h : HS w0 W g (.slice A m c) (Ev.row f m)) (a b : Int) (ha0 : 0 ≤ a) (ha : a < m) (hb0 : 0 ≤ b) (hb : b < m) :
    Calls Try.prog 43 #[.slice A m c, .int .i64 a, .int .i64 b] W fun e w' => e = .returned (.bool (lessI (f a.toNat) (f b.toNat))) ∧ Below W.heap.size W w' := by
  have hr := Kd.R_reads' h.row
  have hl := row_len f m
  have := evict_row_Less.calls A c (Ev.row f m) a b (lessI (f a.toNat) (f b.toNat)) W hr.2.2 (by rw [← hr.1]; exact hr.2.1) (by
    unfold evict_row_Less.f
    rw [hl, if_pos ha0, if_pos ha, if_pos hb0, if_pos hb, row_rd f m a ha0 ha, row_rd f m b hb0 hb]
    simp only [evict_Ahead.f, Option.bind_some, lessI, lex]
    show (if aheadI _ _ = true then _ else if aheadI _ _ = true then _ else _) = some (aheadI _ _ || _ && _)
    cases aheadI (f a.toNat) (f b.toNat) <;> cases aheadI (f b.toNat) (f a.toNat) <;> simp)
  rw [hl] at this
  exact this
theorem swap_at (h : HS w0 W g (.slice A m c) (Ev.row f m)) (a b : Int) (ha0 : 0 ≤ a) (ha : a < m) (hb0 : 0 ≤ b) (hb : b < m) :
    Calls Try.prog 45 #[.slice A m c, .int .i64 a, .int .i64 b] W fun e w' => e = .returned (.tuple #[]) ∧ HS w0 w' g (.slice A m c) (Ev.row (swapF f a.toNat b.toNat) m) ∧ Kept W w' (fun k => some k = (Value.slice A m c).ownBlock) := by
  have hl := row_len f m
  refine (evict_row_Swap.calls (fun k => some k = (Value.slice A m c).ownBlock) (.slice A m c) (Ev.row f m) a b (Ev.row (swapF f a.toNat b.toNat) m) w0 W h.bel h.row ?_).mono ?_
  · unfold evict_row_Swap.f
    rw [hl, if_pos ha0, if_pos ha, if_pos hb0, if_pos hb, row_rd f m a ha0 ha, row_rd f m b hb0 hb]
    exact congrArg some (swap_of f m a.toNat b.toNat (by omega) (by omega))
  · rintro e w' ⟨rfl, hr, hb', hk⟩
    exact ⟨rfl, ⟨blk_kept h.box hk (fun q => h.ne q.symm), h.ge, h.ne, R_any hr, hb'⟩, hk⟩
end
theorem down_stop {α : Type} (less : α → α → Bool) (n k i : Nat) (f : Nat → α) (h : n ≤ 2 * i + 1) : down less n k i f = f := by
  cases k with
  | zero => rfl
  | succ k => rw [down, if_pos h]
end Go.Proofs.Ythnbkhggbfnpcaa.Ev
namespace Go.Proofs.Ythnbkhggbfnpcaa.Ev
open Go.RowKit Go.Proofs.YthnbkhggbfnpcaaW.PrintWords Go.Proofs.YthnbkhggbfnpcaaW.PrintLast Go.Proofs.YthnbkhggbfnpcaaW.PrintMore Go.Proofs.Ythnbkhggbfnpcaa.GEv
set_option linter.unusedVariables false
set_option linter.unusedSimpArgs false
theorem enters43 (args : Array Value) (w : World) : (callFunc 43 args).run Try.prog w = .ok (.enter 43 args) w := by kernel_rfl
theorem enters45 (args : Array Value) (w : World) : (callFunc 45 args).run Try.prog w = .ok (.enter 45 args) w := by kernel_rfl
theorem enters24 (args : Array Value) (w : World) : (callFunc 24 args).run Try.prog w = .ok (.enter 24 args) w := by kernel_rfl
theorem enters44 (args : Array Value) (w : World) : (callFunc 44 args).run Try.prog w = .ok (.enter 44 args) w := by kernel_rfl
theorem less_n {w0 W : World} {g : Nat} {A : Option Addr} {c m : Nat} {f : Nat → S55} (h : HS w0 W g (.slice A m c) (row f m)) {a b : Int} {x y : Nat} (ha : a = x) (hb : b = y) (hx : x < m) (hy : y < m) :
    Calls Try.prog 43 #[.slice A m c, .int .i64 a, .int .i64 b] W fun e w' => e = .returned (.bool (lessI (f x) (f y))) ∧ Below W.heap.size W w' := by
  subst ha; subst hb
  have := less_at h (x : Int) (y : Int) (by omega) (by omega) (by omega) (by omega)
  simpa only [Int.toNat_natCast] using this
theorem swap_n {w0 W : World} {g : Nat} {A : Option Addr} {c m : Nat} {f : Nat → S55} (h : HS w0 W g (.slice A m c) (row f m)) {a b : Int} {x y : Nat} (ha : a = x) (hb : b = y) (hx : x < m) (hy : y < m) :
    Calls Try.prog 45 #[.slice A m c, .int .i64 a, .int .i64 b] W fun e w' => e = .returned (.tuple #[]) ∧ HS w0 w' g (.slice A m c) (Ev.row (swapF f x y) m) ∧ Kept W w' (fun k => some k = (Value.slice A m c).ownBlock) := by
  subst ha; subst hb
  have := swap_at h (x : Int) (y : Int) (by omega) (by omega) (by omega) (by omega)
  simpa only [Int.toNat_natCast] using this
def DownPost (w0 w : World) (g : Nat) (A : Option Addr) (c m : Nat) (F : Nat → S55) (e : Ending) (w' : World) : Prop := (∃ b, e = .returned (.bool b)) ∧ HS w0 w' g (.slice A m c) (row F m) ∧ Kept w w' (fun k => some k = (Value.slice A m c).ownBlock)
set_option maxHeartbeats 8000000 in
set_option maxRecDepth 100000 in
theorem down.calls (w0 w : World) (g : Nat) (A : Option Addr) (c m n i : Nat) (f : Nat → S55) (hs : HS w0 w g (.slice A m c) (row f m)) (hm : m ≤ 1000) (hn : n ≤ m) (hi : i ≤ 1000) :
    Calls Try.prog 26 #[.iface 51 (.pointer (some ⟨g, 0, none⟩)), .int .i64 i, .int .i64 n] w (DownPost w0 w g A c m (down lessI n n i f)) := by
  have eL := enters43
  have eS := enters45
  have HS0 := Aside0.mk hs
  clear hs
  go_enter Try.func26, Try.ntmps26
  go_wp2
  go_loopg [7] n (fun kq v7 w' => ∃ (i' : Nat) (f' : Nat → S55), v7 = .int .i64 i' ∧ i' ≤ 1000 ∧ Aside0 (down lessI n kq i' f' = down lessI n n i f) ∧ Aside0 (n ≤ i' + kq) ∧ Aside0 (HS w0 w' g (.slice A m c) (row f' m)) ∧ Aside0 (Kept w w' (fun k => some k = (Value.slice A m c).ownBlock)))
  case atStart => exact ⟨i, f, rfl, hi, ⟨rfl⟩, ⟨by omega⟩, HS0, ⟨Kept.refl _ _⟩⟩
  case round =>
    obtain ⟨i', f', rfl, hi', HD, HN, HR, HK⟩ := hrel
    have mL := run_less HR.out.cell
    have mS := run_swap HR.out.cell
    by_cases h1 : n ≤ 2 * i' + 1
    · have HD2 := Aside0.mk ((down_stop lessI n gk i' f' h1).symm.trans HD.out)
      go_wp2
      go_ret
      exact ⟨⟨_, rfl⟩, HD2.out ▸ HR.out, HK.out⟩
    · cases gk with
      | zero => exact absurd HN.out (by omega)
      | succ k1 =>
        have HD1 := HD.out
        rw [down, if_neg h1] at HD1
        clear HD
        have HN1 := HN.out
        by_cases c2 : 2 * i' + 2 < n
        · cases l2 : lessI (f' (2 * i' + 2)) (f' (2 * i' + 1))
          · have hk : kid lessI n f' i' = (2 * i' + 1) := by unfold kid; rw [if_neg (fun q => by rw [l2] at q; simp at q)]
            rw [hk] at HD1
            clear hk
            cases lt : lessI (f' (2 * i' + 1)) (f' i')
            · rw [lt, if_neg (by simp)] at HD1
              have HD2 := Aside0.mk HD1
              clear HD1
              go_wp2_with (go_at_fn 43; (first | refine (less_n HR.out (x := 2 * i' + 2) (y := 2 * i' + 1) (by omega) (by omega) (by omega) (by omega)).mono ?_ | refine (less_n HR.out (x := (2 * i' + 1)) (y := i') (by omega) (by omega) (by omega) (by omega)).mono ?_); rintro e w2 ⟨rfl, hb⟩; have n0 := Aside0.mk (HR.out.below hb); have n1 := Aside0.mk (HK.out.below hb); clear HR HK mL mS; have HR := n0; have HK := n1; clear n0 n1 hb; have mL := run_less HR.out.cell; have mS := run_swap HR.out.cell)
              go_ret
              exact ⟨⟨_, rfl⟩, HD2.out ▸ HR.out, HK.out⟩
            · rw [lt, if_pos rfl] at HD1
              have HD2 := Aside0.mk HD1
              clear HD1
              go_wp2_with (first | (go_at_fn 43; (first | refine (less_n HR.out (x := 2 * i' + 2) (y := 2 * i' + 1) (by omega) (by omega) (by omega) (by omega)).mono ?_ | refine (less_n HR.out (x := (2 * i' + 1)) (y := i') (by omega) (by omega) (by omega) (by omega)).mono ?_); rintro e w2 ⟨rfl, hb⟩; have n0 := Aside0.mk (HR.out.below hb); have n1 := Aside0.mk (HK.out.below hb); clear HR HK mL mS; have HR := n0; have HK := n1; clear n0 n1 hb; have mL := run_less HR.out.cell; have mS := run_swap HR.out.cell) | (go_at_fn 45; refine (swap_n HR.out (x := i') (y := (2 * i' + 1)) (by omega) (by omega) (by omega) (by omega)).mono ?_; rintro e w2 ⟨rfl, hr, hk⟩; have n0 := Aside0.mk hr; have n1 := Aside0.mk (HK.out.then_ hk (fun k q => Or.inl q)); clear HR HK mL mS; have HR := n0; have HK := n1; clear n0 n1 hr hk))
              go_roundg k1
              case measure => omega
              case rel => exact ⟨(2 * i' + 1), swapF f' i' (2 * i' + 1), by go_num, by omega, HD2, ⟨by omega⟩, HR, HK⟩
          · have hk : kid lessI n f' i' = (2 * i' + 2) := by unfold kid; rw [if_pos ⟨c2, l2⟩]
            rw [hk] at HD1
            clear hk
            cases lt : lessI (f' (2 * i' + 2)) (f' i')
            · rw [lt, if_neg (by simp)] at HD1
              have HD2 := Aside0.mk HD1
              clear HD1
              go_wp2_with (go_at_fn 43; (first | refine (less_n HR.out (x := 2 * i' + 2) (y := 2 * i' + 1) (by omega) (by omega) (by omega) (by omega)).mono ?_ | refine (less_n HR.out (x := (2 * i' + 2)) (y := i') (by omega) (by omega) (by omega) (by omega)).mono ?_); rintro e w2 ⟨rfl, hb⟩; have n0 := Aside0.mk (HR.out.below hb); have n1 := Aside0.mk (HK.out.below hb); clear HR HK mL mS; have HR := n0; have HK := n1; clear n0 n1 hb; have mL := run_less HR.out.cell; have mS := run_swap HR.out.cell)
              go_ret
              exact ⟨⟨_, rfl⟩, HD2.out ▸ HR.out, HK.out⟩
            · rw [lt, if_pos rfl] at HD1
              have HD2 := Aside0.mk HD1
              clear HD1
              go_wp2_with (first | (go_at_fn 43; (first | refine (less_n HR.out (x := 2 * i' + 2) (y := 2 * i' + 1) (by omega) (by omega) (by omega) (by omega)).mono ?_ | refine (less_n HR.out (x := (2 * i' + 2)) (y := i') (by omega) (by omega) (by omega) (by omega)).mono ?_); rintro e w2 ⟨rfl, hb⟩; have n0 := Aside0.mk (HR.out.below hb); have n1 := Aside0.mk (HK.out.below hb); clear HR HK mL mS; have HR := n0; have HK := n1; clear n0 n1 hb; have mL := run_less HR.out.cell; have mS := run_swap HR.out.cell) | (go_at_fn 45; refine (swap_n HR.out (x := i') (y := (2 * i' + 2)) (by omega) (by omega) (by omega) (by omega)).mono ?_; rintro e w2 ⟨rfl, hr, hk⟩; have n0 := Aside0.mk hr; have n1 := Aside0.mk (HK.out.then_ hk (fun k q => Or.inl q)); clear HR HK mL mS; have HR := n0; have HK := n1; clear n0 n1 hr hk))
              go_roundg k1
              case measure => omega
              case rel => exact ⟨(2 * i' + 2), swapF f' i' (2 * i' + 2), by go_num, by omega, HD2, ⟨by omega⟩, HR, HK⟩
        · have hk : kid lessI n f' i' = (2 * i' + 1) := by unfold kid; rw [if_neg (fun q => c2 q.1)]
          rw [hk] at HD1
          clear hk
          cases lt : lessI (f' (2 * i' + 1)) (f' i')
          · rw [lt, if_neg (by simp)] at HD1
            have HD2 := Aside0.mk HD1
            clear HD1
            go_wp2_with (go_at_fn 43; (first | refine (less_n HR.out (x := (2 * i' + 1)) (y := i') (by omega) (by omega) (by omega) (by omega)).mono ?_); rintro e w2 ⟨rfl, hb⟩; have n0 := Aside0.mk (HR.out.below hb); have n1 := Aside0.mk (HK.out.below hb); clear HR HK mL mS; have HR := n0; have HK := n1; clear n0 n1 hb; have mL := run_less HR.out.cell; have mS := run_swap HR.out.cell)
            go_ret
            exact ⟨⟨_, rfl⟩, HD2.out ▸ HR.out, HK.out⟩
          · rw [lt, if_pos rfl] at HD1
            have HD2 := Aside0.mk HD1
            clear HD1
            go_wp2_with (first | (go_at_fn 43; (first | refine (less_n HR.out (x := (2 * i' + 1)) (y := i') (by omega) (by omega) (by omega) (by omega)).mono ?_); rintro e w2 ⟨rfl, hb⟩; have n0 := Aside0.mk (HR.out.below hb); have n1 := Aside0.mk (HK.out.below hb); clear HR HK mL mS; have HR := n0; have HK := n1; clear n0 n1 hb; have mL := run_less HR.out.cell; have mS := run_swap HR.out.cell) | (go_at_fn 45; refine (swap_n HR.out (x := i') (y := (2 * i' + 1)) (by omega) (by omega) (by omega) (by omega)).mono ?_; rintro e w2 ⟨rfl, hr, hk⟩; have n0 := Aside0.mk hr; have n1 := Aside0.mk (HK.out.then_ hk (fun k q => Or.inl q)); clear HR HK mL mS; have HR := n0; have HK := n1; clear n0 n1 hr hk))
            go_roundg k1
            case measure => omega
            case rel => exact ⟨(2 * i' + 1), swapF f' i' (2 * i' + 1), by go_num, by omega, HD2, ⟨by omega⟩, HR, HK⟩
end Go.Proofs.Ythnbkhggbfnpcaa.Ev
