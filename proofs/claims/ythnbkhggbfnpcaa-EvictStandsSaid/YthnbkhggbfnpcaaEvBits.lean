/- bosunlaw24.bits: its contract. No conditions beside those stated. -/
import Derived.Test.YthnbkhggbfnpcaaEvRAhead
namespace Go.Proofs.Ythnbkhggbfnpcaa.GEv
open Go.RowKit Go.Proofs.YthnbkhggbfnpcaaW.PrintWords Go.Proofs.YthnbkhggbfnpcaaW.PrintLast Go.Proofs.YthnbkhggbfnpcaaW.PrintMore Go.Proofs.Ythnbkhggbfnpcaa.Ev
set_option linter.unusedVariables false
set_option linter.unusedSimpArgs false
def bitsB (a b : Nat) : Bool := if (nanD (F64.read a) || nanD (F64.read b)) = true then nanD (F64.read a) && nanD (F64.read b) else a == b
def bosunlaw24_bits.f (a b : Nat) : Option Bool := some (bitsB a b)
theorem f64bits_run (b : Nat) (w : World) : (callFunc 19 #[.float .f64 b]).run Try.prog w = .ok (.value (.int .u64 b)) w := by kernel_rfl
theorem quo_bits {u a p q : Nat} (h : Quo u a p) (k : Quo u a q) : bitsB p q = true := by
  unfold bitsB
  rcases h with h | ⟨h, hn⟩
  · rcases k with k | ⟨k, kn⟩
    · rw [h] at k
      cases k
      cases nanD (F64.read p) <;> simp
    · rw [h] at k; cases k
  · rcases k with k | ⟨k, kn⟩
    · rw [h] at k; cases k
    · simp [hn, kn]
theorem bits_same (a : Nat) : bitsB a a = true := by unfold bitsB; cases nanD (F64.read a) <;> simp
set_option maxHeartbeats 4000000 in
set_option maxRecDepth 100000 in
theorem bosunlaw24_bits.same (a b : Nat) (w : World) : Calls Try.prog 9 #[.float .f64 a, .float .f64 b] w fun e w' => e = .returned (.bool (bitsB a b)) ∧ w = w' := by
  have hf := f64bits_run
  have H : Aside0 (bitsB a b = if (neF a a || neF b b) = true then neF a a && neF b b else a == b) := ⟨by rw [neF_self, neF_self]; rfl⟩
  cases ha : neF a a <;> cases hb : neF b b
  · have hgt_ := gtr_float
    have hne_ := neq_float
    go_enter Try.func9, Try.ntmps9
    go_wp2
    go_ret
    have e : ((a : Int) == (b : Int)) = (a == b) := by rw [Bool.eq_iff_iff]; simp only [beq_iff_eq]; omega
    exact ⟨by rw [H.out, ha, hb]; simp [e], rfl⟩
  all_goals
    have hgt_ := gtr_float
    have hlt_ := lss_float
    have hle_ := leq_float
    have hne_ := neq_float
    go_enter Try.func9, Try.ntmps9
    go_wp2
    go_ret
    exact ⟨by rw [H.out, ha, hb]; simp, rfl⟩
end Go.Proofs.Ythnbkhggbfnpcaa.GEv
