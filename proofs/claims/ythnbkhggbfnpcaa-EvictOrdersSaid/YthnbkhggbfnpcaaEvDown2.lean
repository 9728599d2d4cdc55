/- container/heap's down: the walk. No conditions beside those stated. -/
import Derived.Test.YthnbkhggbfnpcaaEvDown
import Derived.Shelf.Abstract
namespace Go.Proofs.Ythnbkhggbfnpcaa.Ev
open Go.RowKit Go.Proofs.YthnbkhggbfnpcaaW.PrintWords Go.Proofs.YthnbkhggbfnpcaaW.PrintLast Go.Proofs.YthnbkhggbfnpcaaW.PrintMore Go.Proofs.Ythnbkhggbfnpcaa.GEv
set_option linter.unusedVariables false
set_option linter.unusedSimpArgs false
theorem enters43 (args : Array Value) (w : World) : (callFunc 43 args).run Try.prog w = .ok (.enter 43 args) w := by kernel_rfl
theorem enters45 (args : Array Value) (w : World) : (callFunc 45 args).run Try.prog w = .ok (.enter 45 args) w := by kernel_rfl
theorem enters24 (args : Array Value) (w : World) : (callFunc 24 args).run Try.prog w = .ok (.enter 24 args) w := by kernel_rfl
theorem enters44 (args : Array Value) (w : World) : (callFunc 44 args).run Try.prog w = .ok (.enter 44 args) w := by kernel_rfl
theorem less_n {w0 W : World} {g : Nat} {A : Option Addr} {c m : Nat} {f : Nat → S55} (h : HS w0 W g (.slice A m c) (row f m)) {a b : Int} {x y : Nat} (ha : a = x) (hb : b = y) (hx : x < m) (hy : y < m) :
    Calls Try.prog 43 #[.slice A m c, .int .i64 a, .int .i64 b] W fun e w' => e = .returned (.bool (lessI (f x) (f y))) ∧ Below W.heap.size W w' := by
  subst ha; subst hb
  have := less_at h (x : Int) (y : Int) (by omega) (by omega) (by omega) (by omega)
  simpa only [Int.toNat_natCast] using this
theorem swap_n {w0 W : World} {g : Nat} {A : Option Addr} {c m : Nat} {f : Nat → S55} (h : HS w0 W g (.slice A m c) (row f m)) {a b : Int} {x y : Nat} (ha : a = x) (hb : b = y) (hx : x < m) (hy : y < m) :
    Calls Try.prog 45 #[.slice A m c, .int .i64 a, .int .i64 b] W fun e w' => e = .returned (.tuple #[]) ∧ HS w0 w' g (.slice A m c) (Ev.row (swapF f x y) m) ∧ Kept W w' (fun k => some k = (Value.slice A m c).ownBlock) := by
  subst ha; subst hb
  have := swap_at h (x : Int) (y : Int) (by omega) (by omega) (by omega) (by omega)
  simpa only [Int.toNat_natCast] using this
def DownPost (w0 w : World) (g : Nat) (A : Option Addr) (c m : Nat) (F : Nat → S55) (e : Ending) (w' : World) : Prop := (∃ b, e = .returned (.bool b)) ∧ HS w0 w' g (.slice A m c) (row F m) ∧ Kept w w' (fun k => some k = (Value.slice A m c).ownBlock)
set_option maxHeartbeats 8000000 in
set_option maxRecDepth 100000 in
theorem down.calls (w0 w : World) (g : Nat) (A : Option Addr) (c m n i : Nat) (f : Nat → S55) (hs : HS w0 w g (.slice A m c) (row f m)) (hm : m ≤ 1000) (hn : n ≤ m) (hi : i ≤ 1000) :
    Calls Try.prog 26 #[.iface 51 (.pointer (some ⟨g, 0, none⟩)), .int .i64 i, .int .i64 n] w (DownPost w0 w g A c m (down lessI n n i f)) := by
  have eL := enters43
  have eS := enters45
  have HS0 := Aside0.mk hs
  clear hs
  go_enter Try.func26, Try.ntmps26
  go_wp2
  go_loopg [7] n (fun kq v7 w' => ∃ (i' : Nat) (f' : Nat → S55), v7 = .int .i64 i' ∧ i' ≤ 1000 ∧ Aside0 (down lessI n kq i' f' = down lessI n n i f) ∧ Aside0 (n ≤ i' + kq) ∧ Aside0 (HS w0 w' g (.slice A m c) (row f' m)) ∧ Aside0 (Kept w w' (fun k => some k = (Value.slice A m c).ownBlock)))
  case atStart => exact ⟨i, f, rfl, hi, ⟨rfl⟩, ⟨by omega⟩, HS0, ⟨Kept.refl _ _⟩⟩
  case round =>
    obtain ⟨i', f', rfl, hi', HD, HN, HR, HK⟩ := hrel
    have mL := run_less HR.out.cell
    have mS := run_swap HR.out.cell
    by_cases h1 : n ≤ 2 * i' + 1
    · have HD2 := Aside0.mk ((down_stop lessI n gk i' f' h1).symm.trans HD.out)
      go_wp2
      go_ret
      exact ⟨⟨_, rfl⟩, HD2.out ▸ HR.out, HK.out⟩
    · cases gk with
      | zero => exact absurd HN.out (by omega)
      | succ k1 =>
        have HD1 := HD.out
        rw [down, if_neg h1] at HD1
        clear HD
        have HN1 := HN.out
        by_cases c2 : 2 * i' + 2 < n
        · cases l2 : lessI (f' (2 * i' + 2)) (f' (2 * i' + 1))
          · have hk : kid lessI n f' i' = (2 * i' + 1) := by unfold kid; rw [if_neg (fun q => by rw [l2] at q; simp at q)]
            rw [hk] at HD1
            clear hk
            cases lt : lessI (f' (2 * i' + 1)) (f' i')
            · rw [lt, if_neg (by simp)] at HD1
              have HD2 := Aside0.mk HD1
              clear HD1
              go_wp2_with (go_at_fn 43; (first | refine (less_n HR.out (x := 2 * i' + 2) (y := 2 * i' + 1) (by omega) (by omega) (by omega) (by omega)).mono ?_ | refine (less_n HR.out (x := (2 * i' + 1)) (y := i') (by omega) (by omega) (by omega) (by omega)).mono ?_); rintro e w2 ⟨rfl, hb⟩; have n0 := Aside0.mk (HR.out.below hb); have n1 := Aside0.mk (HK.out.below hb); clear HR HK mL mS; have HR := n0; have HK := n1; clear n0 n1 hb; have mL := run_less HR.out.cell; have mS := run_swap HR.out.cell)
              go_ret
              exact ⟨⟨_, rfl⟩, HD2.out ▸ HR.out, HK.out⟩
            · rw [lt, if_pos rfl] at HD1
              have HD2 := Aside0.mk HD1
              clear HD1
              go_wp2_with (first | (go_at_fn 43; (first | refine (less_n HR.out (x := 2 * i' + 2) (y := 2 * i' + 1) (by omega) (by omega) (by omega) (by omega)).mono ?_ | refine (less_n HR.out (x := (2 * i' + 1)) (y := i') (by omega) (by omega) (by omega) (by omega)).mono ?_); rintro e w2 ⟨rfl, hb⟩; have n0 := Aside0.mk (HR.out.below hb); have n1 := Aside0.mk (HK.out.below hb); clear HR HK mL mS; have HR := n0; have HK := n1; clear n0 n1 hb; have mL := run_less HR.out.cell; have mS := run_swap HR.out.cell) | (go_at_fn 45; refine (swap_n HR.out (x := i') (y := (2 * i' + 1)) (by omega) (by omega) (by omega) (by omega)).mono ?_; rintro e w2 ⟨rfl, hr, hk⟩; have n0 := Aside0.mk hr; have n1 := Aside0.mk (HK.out.then_ hk (fun k q => Or.inl q)); clear HR HK mL mS; have HR := n0; have HK := n1; clear n0 n1 hr hk))
              go_roundg k1
              case measure => omega
              case rel => exact ⟨(2 * i' + 1), swapF f' i' (2 * i' + 1), by go_num, by omega, HD2, ⟨by omega⟩, HR, HK⟩
          · have hk : kid lessI n f' i' = (2 * i' + 2) := by unfold kid; rw [if_pos ⟨c2, l2⟩]
            rw [hk] at HD1
            clear hk
            cases lt : lessI (f' (2 * i' + 2)) (f' i')
            · rw [lt, if_neg (by simp)] at HD1
              have HD2 := Aside0.mk HD1
              clear HD1
              go_wp2_with (go_at_fn 43; (first | refine (less_n HR.out (x := 2 * i' + 2) (y := 2 * i' + 1) (by omega) (by omega) (by omega) (by omega)).mono ?_ | refine (less_n HR.out (x := (2 * i' + 2)) (y := i') (by omega) (by omega) (by omega) (by omega)).mono ?_); rintro e w2 ⟨rfl, hb⟩; have n0 := Aside0.mk (HR.out.below hb); have n1 := Aside0.mk (HK.out.below hb); clear HR HK mL mS; have HR := n0; have HK := n1; clear n0 n1 hb; have mL := run_less HR.out.cell; have mS := run_swap HR.out.cell)
              go_ret
              exact ⟨⟨_, rfl⟩, HD2.out ▸ HR.out, HK.out⟩
            · rw [lt, if_pos rfl] at HD1
              have HD2 := Aside0.mk HD1
              clear HD1
              go_wp2_with (first | (go_at_fn 43; (first | refine (less_n HR.out (x := 2 * i' + 2) (y := 2 * i' + 1) (by omega) (by omega) (by omega) (by omega)).mono ?_ | refine (less_n HR.out (x := (2 * i' + 2)) (y := i') (by omega) (by omega) (by omega) (by omega)).mono ?_); rintro e w2 ⟨rfl, hb⟩; have n0 := Aside0.mk (HR.out.below hb); have n1 := Aside0.mk (HK.out.below hb); clear HR HK mL mS; have HR := n0; have HK := n1; clear n0 n1 hb; have mL := run_less HR.out.cell; have mS := run_swap HR.out.cell) | (go_at_fn 45; refine (swap_n HR.out (x := i') (y := (2 * i' + 2)) (by omega) (by omega) (by omega) (by omega)).mono ?_; rintro e w2 ⟨rfl, hr, hk⟩; have n0 := Aside0.mk hr; have n1 := Aside0.mk (HK.out.then_ hk (fun k q => Or.inl q)); clear HR HK mL mS; have HR := n0; have HK := n1; clear n0 n1 hr hk))
              go_roundg k1
              case measure => omega
              case rel => exact ⟨(2 * i' + 2), swapF f' i' (2 * i' + 2), by go_num, by omega, HD2, ⟨by omega⟩, HR, HK⟩
        · have hk : kid lessI n f' i' = (2 * i' + 1) := by unfold kid; rw [if_neg (fun q => c2 q.1)]
          rw [hk] at HD1
          clear hk
          cases lt : lessI (f' (2 * i' + 1)) (f' i')
          · rw [lt, if_neg (by simp)] at HD1
            have HD2 := Aside0.mk HD1
            clear HD1
            go_wp2_with (go_at_fn 43; (first | refine (less_n HR.out (x := (2 * i' + 1)) (y := i') (by omega) (by omega) (by omega) (by omega)).mono ?_); rintro e w2 ⟨rfl, hb⟩; have n0 := Aside0.mk (HR.out.below hb); have n1 := Aside0.mk (HK.out.below hb); clear HR HK mL mS; have HR := n0; have HK := n1; clear n0 n1 hb; have mL := run_less HR.out.cell; have mS := run_swap HR.out.cell)
            go_ret
            exact ⟨⟨_, rfl⟩, HD2.out ▸ HR.out, HK.out⟩
          · rw [lt, if_pos rfl] at HD1
            have HD2 := Aside0.mk HD1
            clear HD1
            go_wp2_with (first | (go_at_fn 43; (first | refine (less_n HR.out (x := (2 * i' + 1)) (y := i') (by omega) (by omega) (by omega) (by omega)).mono ?_); rintro e w2 ⟨rfl, hb⟩; have n0 := Aside0.mk (HR.out.below hb); have n1 := Aside0.mk (HK.out.below hb); clear HR HK mL mS; have HR := n0; have HK := n1; clear n0 n1 hb; have mL := run_less HR.out.cell; have mS := run_swap HR.out.cell) | (go_at_fn 45; refine (swap_n HR.out (x := i') (y := (2 * i' + 1)) (by omega) (by omega) (by omega) (by omega)).mono ?_; rintro e w2 ⟨rfl, hr, hk⟩; have n0 := Aside0.mk hr; have n1 := Aside0.mk (HK.out.then_ hk (fun k q => Or.inl q)); clear HR HK mL mS; have HR := n0; have HK := n1; clear n0 n1 hr hk))
            go_roundg k1
            case measure => omega
            case rel => exact ⟨(2 * i' + 1), swapF f' i' (2 * i' + 1), by go_num, by omega, HD2, ⟨by omega⟩, HR, HK⟩
end Go.Proofs.Ythnbkhggbfnpcaa.Ev
