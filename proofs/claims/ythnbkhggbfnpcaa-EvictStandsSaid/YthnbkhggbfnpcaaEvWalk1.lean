/- evict: Score, IsNaN, none: contracts. No conditions beside those stated. -/
import Derived.Test.YthnbkhggbfnpcaaEvWalk0
namespace Go.Proofs.Ythnbkhggbfnpcaa.Ev
open Go.RowKit Go.Proofs.YthnbkhggbfnpcaaW.PrintWords Go.Proofs.YthnbkhggbfnpcaaW.PrintLast Go.Proofs.YthnbkhggbfnpcaaW.PrintMore
set_option linter.unusedVariables false
set_option linter.unusedSimpArgs false
set_option maxHeartbeats 4000000 in
theorem Score.calls (fl : ByteArray) (u a : Nat) (w : World) : Calls Try.prog 11 #[.agg #[.string fl, .float .f64 u, .float .f64 a]] w fun e w' => ∃ q, e = .returned (.float .f64 q) ∧ Quo u a q ∧ Below w.heap.size w w' := by
  have hu27 := Try.underlying27
  have HB := Aside0.mk ((Below.refl _ w).alloc (Nat.le_refl _) (.cells #[.string fl, .float .f64 u, .float .f64 a] 27))
  cases hq : F64.div u a with
  | some q =>
    have HQ := Aside0.mk hq
    have hrq : (binOp .quo 25 (.float .f64 u) (.float .f64 a)).run Try.prog (w.alloc (.cells #[.string fl, .float .f64 u, .float .f64 a] 27)) = .ok (.float .f64 q) _ := run_quo_some hq
    clear hq
    go_enter Try.func11, Try.ntmps11
    go_wp2
    go_ret
    exact ⟨q, rfl, Or.inl HQ.out, HB.out⟩
  | none =>
    have HQ := Aside0.mk hq
    obtain ⟨q, hn, hrq⟩ := run_quo_none (P := Try.prog) (w := w.alloc (.cells #[.string fl, .float .f64 u, .float .f64 a] 27)) (t := 25) hq
    have HN := Aside0.mk hn
    clear hq hn
    go_enter Try.func11, Try.ntmps11
    go_wp2
    go_ret
    exact ⟨q, rfl, Or.inr ⟨HQ.out, HN.out⟩, HB.out.drew⟩
abbrev signedI (s : Bool) (m : Nat) (i : Int) : Int := Ieee.signed s m (i - min i i).toNat
theorem order_self (x : Nat) : (F64.order x x != some .eq) = nanD (F64.read x) := by
  show ((F64.read x).order (F64.read x) != some .eq) = _
  generalize F64.read x = d
  cases d with
  | nan s t => rfl
  | infinity s =>
    show (some (compare s.toNat s.toNat) != some .eq) = false
    cases s <;> rfl
  | number s m i =>
    show (some (compare (signedI s m i) (signedI s m i)) != some .eq) = false
    rw [cmp_eq]; rfl
theorem IsNaN.calls (x : Nat) (w : World) : Calls Try.prog 18 #[.float .f64 x] w fun e w' => e = .returned (.bool (nanD (F64.read x))) ∧ Below w.heap.size w w' := by
  rw [← order_self]
  go_enter Try.func18, Try.ntmps18
  go_wp2
  go_ret
  exact ⟨rfl, Below.refl _ _⟩
theorem none.calls (x : Nat) (w : World) : Calls Try.prog 20 #[.float .f64 x] w fun e w' => e = .returned (.bool (nanD (F64.read x))) ∧ Below w.heap.size w w' := by
  rw [← order_self]
  go_enter Try.func20, Try.ntmps20
  go_wp2
  go_ret
  exact ⟨rfl, Below.refl _ _⟩
theorem Len.calls (A : Option Addr) (n c : Nat) (w : World) : Calls Try.prog 24 #[.slice A n c] w fun e w' => e = .returned (.int .i64 n) ∧ w' = w := by
  go_enter Try.func24, Try.ntmps24
  go_wp2
  go_ret
  exact ⟨rfl, rfl⟩
end Go.Proofs.Ythnbkhggbfnpcaa.Ev
