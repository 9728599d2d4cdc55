/- Numbers' order (IEEE words): of any finite list, whole numbers stand in for those that aren't none. Plain, no program in sight. -/
import Ieee.Arith
namespace Go.Proofs.Ythnbkhggbfnpcaa.Ev
open Ieee
set_option linter.unusedVariables false
set_option linter.unusedSimpArgs false
def nanD : Datum → Bool
  | .nan .. => true
  | _ => false
def keyD (B M : Int) : Datum → Int
  | .nan .. => 0
  | .infinity s => if s then -M else M
  | .number s m i => signed s m (i - B).toNat
theorem signed_shift (s : Bool) (m a b : Nat) : signed s m (a + b) = signed s m a * ((2 ^ b : Nat) : Int) := by
  unfold signed
  rw [Nat.shiftLeft_eq, Nat.shiftLeft_eq, Nat.pow_add, ← Nat.mul_assoc]
  cases s
  · simp [Int.natCast_mul]
  · simp [Int.natCast_mul, Int.neg_mul]
theorem cmp_scale (x y : Int) {p : Int} (hp : 0 < p) : compare (x * p) (y * p) = compare x y := by
  show compareOfLessAndEq _ _ = compareOfLessAndEq _ _
  unfold compareOfLessAndEq
  by_cases h : x < y
  · rw [if_pos h, if_pos (Int.mul_lt_mul_of_pos_right h hp)]
  · by_cases e : x = y
    · subst e; simp
    · have h2 : y < x := by omega
      have h3 := Int.mul_lt_mul_of_pos_right h2 hp
      rw [if_neg h, if_neg e, if_neg (by omega), if_neg (by omega)]
theorem order_num (s t : Bool) (m n : Nat) (i j B : Int) (hi : B ≤ i) (hj : B ≤ j) : Datum.order (.number s m i) (.number t n j) = some (compare (signed s m (i - B).toNat) (signed t n (j - B).toNat)) := by
  show some (compare (signed s m (i - min i j).toNat) (signed t n (j - min i j).toNat)) = _
  have e1 : (i - B).toNat = (i - min i j).toNat + (min i j - B).toNat := by omega
  have e2 : (j - B).toNat = (j - min i j).toNat + (min i j - B).toNat := by omega
  rw [e1, e2, signed_shift, signed_shift, cmp_scale _ _ (by exact_mod_cast Nat.two_pow_pos _)]
/-- A datum whose digits reach down to B at most, and that is less than M. -/
def Within (B M : Int) : Datum → Prop
  | .number s m i => B ≤ i ∧ -M < signed s m (i - B).toNat ∧ signed s m (i - B).toNat < M
  | _ => True
theorem cmp_lt {x y : Int} (h : x < y) : compare x y = .lt := by show compareOfLessAndEq _ _ = _; unfold compareOfLessAndEq; rw [if_pos h]
theorem cmp_gt {x y : Int} (h : y < x) : compare x y = .gt := by show compareOfLessAndEq _ _ = _; unfold compareOfLessAndEq; rw [if_neg (by omega), if_neg (by omega)]
theorem cmp_eq (x : Int) : compare x x = .eq := by show compareOfLessAndEq _ _ = _; unfold compareOfLessAndEq; simp
theorem order_key {B M : Int} (hM : 0 < M) : ∀ d e : Datum, Within B M d → Within B M e → Datum.order d e = if nanD d = true ∨ nanD e = true then none else some (compare (keyD B M d) (keyD B M e))
  | .nan .., .nan .., _, _ => by simp [Datum.order, nanD]
  | .nan .., .infinity _, _, _ => by simp [Datum.order, nanD]
  | .nan .., .number .., _, _ => by simp [Datum.order, nanD]
  | .infinity _, .nan .., _, _ => by simp [Datum.order, nanD]
  | .number .., .nan .., _, _ => by simp [Datum.order, nanD]
  | .infinity s, .infinity t, _, _ => by
    rw [if_neg (show ¬ (nanD (.infinity s) = true ∨ nanD (.infinity t) = true) by simp [nanD])]
    cases s <;> cases t
    · show some Ordering.eq = some (compare M M); rw [cmp_eq]
    · show some Ordering.gt = some (compare M (-M)); rw [cmp_gt (by omega)]
    · show some Ordering.lt = some (compare (-M) M); rw [cmp_lt (by omega)]
    · show some Ordering.eq = some (compare (-M) (-M)); rw [cmp_eq]
  | .infinity s, .number t n j, _, h => by
    obtain ⟨_, h1, h2⟩ := h
    rw [if_neg (show ¬ (nanD (.infinity s) = true ∨ nanD (.number t n j) = true) by simp [nanD])]
    cases s
    · show some Ordering.gt = some (compare M (signed t n (j - B).toNat)); rw [cmp_gt h2]
    · show some Ordering.lt = some (compare (-M) (signed t n (j - B).toNat)); rw [cmp_lt h1]
  | .number s m i, .infinity t, h, _ => by
    obtain ⟨_, h1, h2⟩ := h
    rw [if_neg (show ¬ (nanD (.number s m i) = true ∨ nanD (.infinity t) = true) by simp [nanD])]
    cases t
    · show some Ordering.lt = some (compare (signed s m (i - B).toNat) M); rw [cmp_lt h2]
    · show some Ordering.gt = some (compare (signed s m (i - B).toNat) (-M)); rw [cmp_gt h1]
  | .number s m i, .number t n j, h, h' => by
    rw [order_num s t m n i j B h.1 h'.1, if_neg (by simp [nanD])]
    rfl
theorem within_all : ∀ l : List Datum, ∃ B M : Int, 0 < M ∧ ∀ d ∈ l, Within B M d := by
  have low : ∀ l : List Datum, ∃ B : Int, ∀ d ∈ l, ∀ s m i, d = .number s m i → B ≤ i := by
    intro l
    induction l with
    | nil => exact ⟨0, fun d h => by cases h⟩
    | cons x xs ih =>
      obtain ⟨B, hB⟩ := ih
      cases hx : x with
      | number s m i =>
        refine ⟨min B i, fun d h s' m' i' e => ?_⟩
        rcases List.mem_cons.1 h with rfl | h
        · cases e; omega
        · have := hB d h s' m' i' e; omega
      | _ =>
        refine ⟨B, fun d h s' m' i' e => ?_⟩
        rcases List.mem_cons.1 h with rfl | h
        · cases e
        · exact hB d h s' m' i' e
  intro l
  obtain ⟨B, hB⟩ := low l
  have up : ∀ k : List Datum, ∃ M : Int, 0 < M ∧ ∀ d ∈ k, ∀ s m i, d = .number s m i → -M < signed s m (i - B).toNat ∧ signed s m (i - B).toNat < M := by
    intro k
    induction k with
    | nil => exact ⟨1, by omega, fun d h => by cases h⟩
    | cons x xs ih =>
      obtain ⟨M, h0, hM⟩ := ih
      cases hx : x with
      | number s m i =>
        refine ⟨M + (signed s m (i - B).toNat).natAbs + 1, by omega, fun d h s' m' i' e => ?_⟩
        rcases List.mem_cons.1 h with rfl | h
        · cases e; omega
        · have := hM d h s' m' i' e; omega
      | _ =>
        refine ⟨M, h0, fun d h s' m' i' e => ?_⟩
        rcases List.mem_cons.1 h with rfl | h
        · cases e
        · exact hM d h s' m' i' e
  obtain ⟨M, h0, hM⟩ := up l
  refine ⟨B, M, h0, fun d h => ?_⟩
  cases hd : d with
  | number s m i => exact ⟨hB d h s m i hd, hM d h s m i hd⟩
  | _ => trivial
end Go.Proofs.Ythnbkhggbfnpcaa.Ev
