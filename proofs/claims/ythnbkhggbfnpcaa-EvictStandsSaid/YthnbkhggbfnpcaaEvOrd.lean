/- Numbers' order (IEEE words): of any finite list, whole numbers stand in for those that aren't none. Plain, no program in sight. A heap over places 0..n-1, as container/heap keeps it: down mends one place; the root is the least. Plain, no program in sight. Orders, one behind the other. Plain, no program in sight. Choosing again and again the first of the best: a sorted list of the same things. Plain, no program in sight. No conditions beside those stated. -/
import Ieee.Arith
namespace Go.Proofs.Ythnbkhggbfnpcaa.Ev
open Ieee
set_option linter.unusedVariables false
set_option linter.unusedSimpArgs false
def nanD : Datum → Bool
  | .nan .. => true
  | _ => false
def keyD (B M : Int) : Datum → Int
  | .nan .. => 0
  | .infinity s => if s then -M else M
  | .number s m i => signed s m (i - B).toNat
theorem signed_shift (s : Bool) (m a b : Nat) : signed s m (a + b) = signed s m a * ((2 ^ b : Nat) : Int) := by
  unfold signed
  rw [Nat.shiftLeft_eq, Nat.shiftLeft_eq, Nat.pow_add, ← Nat.mul_assoc]
  cases s
  · simp [Int.natCast_mul]
  · simp [Int.natCast_mul, Int.neg_mul]
theorem cmp_scale (x y : Int) {p : Int} (hp : 0 < p) : compare (x * p) (y * p) = compare x y := by
  show compareOfLessAndEq _ _ = compareOfLessAndEq _ _
  unfold compareOfLessAndEq
  by_cases h : x < y
  · rw [if_pos h, if_pos (Int.mul_lt_mul_of_pos_right h hp)]
  · by_cases e : x = y
    · subst e; simp
    · have h2 : y < x := by omega
      have h3 := Int.mul_lt_mul_of_pos_right h2 hp
      rw [if_neg h, if_neg e, if_neg (by omega), if_neg (by omega)]
theorem order_num (s t : Bool) (m n : Nat) (i j B : Int) (hi : B ≤ i) (hj : B ≤ j) : Datum.order (.number s m i) (.number t n j) = some (compare (signed s m (i - B).toNat) (signed t n (j - B).toNat)) := by
  show some (compare (signed s m (i - min i j).toNat) (signed t n (j - min i j).toNat)) = _
  have e1 : (i - B).toNat = (i - min i j).toNat + (min i j - B).toNat := by omega
  have e2 : (j - B).toNat = (j - min i j).toNat + (min i j - B).toNat := by omega
  rw [e1, e2, signed_shift, signed_shift, cmp_scale _ _ (by exact_mod_cast Nat.two_pow_pos _)]
/-- A datum whose digits reach down to B at most, and that is less than M. -/
def Within (B M : Int) : Datum → Prop
  | .number s m i => B ≤ i ∧ -M < signed s m (i - B).toNat ∧ signed s m (i - B).toNat < M
  | _ => True
theorem cmp_lt {x y : Int} (h : x < y) : compare x y = .lt := by show compareOfLessAndEq _ _ = _; unfold compareOfLessAndEq; rw [if_pos h]
theorem cmp_gt {x y : Int} (h : y < x) : compare x y = .gt := by show compareOfLessAndEq _ _ = _; unfold compareOfLessAndEq; rw [if_neg (by omega), if_neg (by omega)]
theorem cmp_eq (x : Int) : compare x x = .eq := by show compareOfLessAndEq _ _ = _; unfold compareOfLessAndEq; simp
theorem order_key {B M : Int} (hM : 0 < M) : ∀ d e : Datum, Within B M d → Within B M e → Datum.order d e = if nanD d = true ∨ nanD e = true then none else some (compare (keyD B M d) (keyD B M e))
  | .nan .., .nan .., _, _ => by simp [Datum.order, nanD]
  | .nan .., .infinity _, _, _ => by simp [Datum.order, nanD]
  | .nan .., .number .., _, _ => by simp [Datum.order, nanD]
  | .infinity _, .nan .., _, _ => by simp [Datum.order, nanD]
  | .number .., .nan .., _, _ => by simp [Datum.order, nanD]
  | .infinity s, .infinity t, _, _ => by
    rw [if_neg (show ¬ (nanD (.infinity s) = true ∨ nanD (.infinity t) = true) by simp [nanD])]
    cases s <;> cases t
    · show some Ordering.eq = some (compare M M); rw [cmp_eq]
    · show some Ordering.gt = some (compare M (-M)); rw [cmp_gt (by omega)]
    · show some Ordering.lt = some (compare (-M) M); rw [cmp_lt (by omega)]
    · show some Ordering.eq = some (compare (-M) (-M)); rw [cmp_eq]
  | .infinity s, .number t n j, _, h => by
    obtain ⟨_, h1, h2⟩ := h
    rw [if_neg (show ¬ (nanD (.infinity s) = true ∨ nanD (.number t n j) = true) by simp [nanD])]
    cases s
    · show some Ordering.gt = some (compare M (signed t n (j - B).toNat)); rw [cmp_gt h2]
    · show some Ordering.lt = some (compare (-M) (signed t n (j - B).toNat)); rw [cmp_lt h1]
  | .number s m i, .infinity t, h, _ => by
    obtain ⟨_, h1, h2⟩ := h
    rw [if_neg (show ¬ (nanD (.number s m i) = true ∨ nanD (.infinity t) = true) by simp [nanD])]
    cases t
    · show some Ordering.lt = some (compare (signed s m (i - B).toNat) M); rw [cmp_lt h2]
    · show some Ordering.gt = some (compare (signed s m (i - B).toNat) (-M)); rw [cmp_gt h1]
  | .number s m i, .number t n j, h, h' => by
    rw [order_num s t m n i j B h.1 h'.1, if_neg (by simp [nanD])]
    rfl
theorem within_all : ∀ l : List Datum, ∃ B M : Int, 0 < M ∧ ∀ d ∈ l, Within B M d := by
  have low : ∀ l : List Datum, ∃ B : Int, ∀ d ∈ l, ∀ s m i, d = .number s m i → B ≤ i := by
    intro l
    induction l with
    | nil => exact ⟨0, fun d h => by cases h⟩
    | cons x xs ih =>
      obtain ⟨B, hB⟩ := ih
      cases hx : x with
      | number s m i =>
        refine ⟨min B i, fun d h s' m' i' e => ?_⟩
        rcases List.mem_cons.1 h with rfl | h
        · cases e; omega
        · have := hB d h s' m' i' e; omega
      | _ =>
        refine ⟨B, fun d h s' m' i' e => ?_⟩
        rcases List.mem_cons.1 h with rfl | h
        · cases e
        · exact hB d h s' m' i' e
  intro l
  obtain ⟨B, hB⟩ := low l
  have up : ∀ k : List Datum, ∃ M : Int, 0 < M ∧ ∀ d ∈ k, ∀ s m i, d = .number s m i → -M < signed s m (i - B).toNat ∧ signed s m (i - B).toNat < M := by
    intro k
    induction k with
    | nil => exact ⟨1, by omega, fun d h => by cases h⟩
    | cons x xs ih =>
      obtain ⟨M, h0, hM⟩ := ih
      cases hx : x with
      | number s m i =>
        refine ⟨M + (signed s m (i - B).toNat).natAbs + 1, by omega, fun d h s' m' i' e => ?_⟩
        rcases List.mem_cons.1 h with rfl | h
        · cases e; omega
        · have := hM d h s' m' i' e; omega
      | _ =>
        refine ⟨M, h0, fun d h s' m' i' e => ?_⟩
        rcases List.mem_cons.1 h with rfl | h
        · cases e
        · exact hM d h s' m' i' e
  obtain ⟨M, h0, hM⟩ := up l
  refine ⟨B, M, h0, fun d h => ?_⟩
  cases hd : d with
  | number s m i => exact ⟨hB d h s m i hd, hM d h s m i hd⟩
  | _ => trivial
end Go.Proofs.Ythnbkhggbfnpcaa.Ev
namespace Go.Proofs.Ythnbkhggbfnpcaa.Ev
set_option linter.unusedVariables false
set_option linter.unusedSimpArgs false
section
variable {α : Type} (less : α → α → Bool)
/-- Strict, and what isn't less goes on. -/
structure Weak : Prop where
  asym : ∀ a b, less a b = true → less b a = false
  neg : ∀ a b c, less a b = false → less b c = false → less a c = false
def swapF (f : Nat → α) (i j : Nat) : Nat → α := fun k => if k = i then f j else if k = j then f i else f k
def kid (n : Nat) (f : Nat → α) (i : Nat) : Nat := if 2 * i + 2 < n ∧ less (f (2 * i + 2)) (f (2 * i + 1)) = true then 2 * i + 2 else 2 * i + 1
def down (n : Nat) : Nat → Nat → (Nat → α) → (Nat → α)
  | 0, _, f => f
  | k + 1, i, f => if n ≤ 2 * i + 1 then f else if less (f (kid less n f i)) (f i) = true then down n k (kid less n f i) (swapF f i (kid less n f i)) else f
def OkAt (n : Nat) (f : Nat → α) (i : Nat) : Prop := ∀ c, (c = 2 * i + 1 ∨ c = 2 * i + 2) → c < n → less (f c) (f i) = false
def HeapFrom (r n : Nat) (f : Nat → α) : Prop := ∀ i, r ≤ i → OkAt less n f i
structure Inv (r n p : Nat) (f : Nat → α) : Prop where
  ge : r ≤ p
  ok : ∀ i, r ≤ i → i ≠ p → OkAt less n f i
  up : ∀ q, r ≤ q → (p = 2 * q + 1 ∨ p = 2 * q + 2) → ∀ c, (c = 2 * p + 1 ∨ c = 2 * p + 2) → c < n → less (f c) (f q) = false
variable {less}
theorem kid_or (n : Nat) (f : Nat → α) (i : Nat) : kid less n f i = 2 * i + 1 ∨ kid less n f i = 2 * i + 2 := by unfold kid; split <;> simp
theorem kid_lt {n : Nat} (f : Nat → α) {i : Nat} (h : 2 * i + 1 < n) : kid less n f i < n := by unfold kid; split <;> omega
theorem Weak.irr (hw : Weak less) (a : α) : less a a = false := by
  cases h : less a a with
  | false => rfl
  | true => have := hw.asym a a h; rw [h] at this; cases this
/-- No child is less than the chosen one. -/
theorem kid_least (hw : Weak less) {n : Nat} (f : Nat → α) (i c : Nat) (hc : c = 2 * i + 1 ∨ c = 2 * i + 2) (hn : c < n) : less (f c) (f (kid less n f i)) = false := by
  unfold kid
  split
  · rename_i h
    rcases hc with rfl | rfl
    · exact hw.asym _ _ h.2
    · exact hw.irr _
  · rename_i h
    rcases hc with rfl | rfl
    · exact hw.irr _
    · cases e : less (f (2 * i + 2)) (f (2 * i + 1)) with
      | false => rfl
      | true => exact absurd ⟨hn, e⟩ h
theorem down_heap (hw : Weak less) (r n : Nat) : ∀ k p (f : Nat → α), n ≤ p + k → Inv less r n p f → HeapFrom less r n (down less n k p f)
  | 0, p, f, hk, h => fun i hi => by
    show OkAt less n f i
    intro c hc hn
    exact h.ok i hi (by omega) c hc hn
  | k + 1, p, f, hk, h => by
    rw [down]
    by_cases h1 : n ≤ 2 * p + 1
    · rw [if_pos h1]
      intro i hi
      by_cases e : i = p
      · subst e; intro c hc hn; omega
      · exact h.ok i hi e
    · rw [if_neg h1]
      have hj := kid_or (less := less) n f p
      have hjn := kid_lt (less := less) f (show 2 * p + 1 < n by omega)
      have hl := fun c hc hn => kid_least hw (n := n) f p c hc hn
      generalize kid less n f p = j at hj hjn hl
      by_cases h2 : less (f j) (f p) = true
      · rw [if_pos h2]
        refine down_heap hw r n k j (swapF f p j) (by omega) ⟨by have := h.ge; omega, ?_, ?_⟩
        · intro i hi hij c hc hn
          by_cases hip : i = p
          · subst hip
            have ei : swapF f i j i = f j := by simp [swapF]
            rw [ei]
            by_cases hcj : c = j
            · subst hcj
              have ec : swapF f i c c = f i := by simp only [swapF]; rw [if_neg (by omega), if_pos True.intro]
              rw [ec]
              exact hw.asym _ _ h2
            · have ec : swapF f i j c = f c := by simp only [swapF]; rw [if_neg (by omega), if_neg hcj]
              rw [ec]
              exact hl c hc hn
          · have ei : swapF f p j i = f i := by simp only [swapF]; rw [if_neg hip, if_neg hij]
            rw [ei]
            by_cases hcp : c = p
            · subst hcp
              have ec : swapF f c j c = f j := by simp [swapF]
              rw [ec]
              exact h.up i hi hc j hj hjn
            · have hcj : c ≠ j := by omega
              have ec : swapF f p j c = f c := by simp only [swapF]; rw [if_neg hcp, if_neg hcj]
              rw [ec]
              exact h.ok i hi hip c hc hn
        · intro q hq hqj c hc hn
          have hqp : q = p := by omega
          subst hqp
          have eq : swapF f q j q = f j := by simp [swapF]
          have ec : swapF f q j c = f c := by simp only [swapF]; rw [if_neg (by omega), if_neg (by omega)]
          rw [eq, ec]
          exact h.ok j (by omega) (by omega) c hc hn
      · rw [if_neg h2]
        intro i hi
        by_cases e : i = p
        · subst e
          intro c hc hn
          exact hw.neg _ _ _ (hl c hc hn) (Bool.eq_false_iff.2 h2)
        · exact h.ok i hi e
theorem root_least (hw : Weak less) {n : Nat} {f : Nat → α} (h : HeapFrom less 0 n f) : ∀ i, i < n → less (f i) (f 0) = false := by
  intro i
  induction i using Nat.strongRecOn with
  | _ i ih =>
    intro hi
    by_cases e : i = 0
    · subst e; exact hw.irr _
    · have hp : (i - 1) / 2 < i := by omega
      exact hw.neg _ _ _ (h ((i - 1) / 2) (Nat.zero_le _) i (by omega) hi) (ih _ hp (by omega))
/-- Down leaves alone all places that aren't below n. -/
theorem down_far (n : Nat) : ∀ k p (f : Nat → α), p < n ∨ n ≤ 2 * p + 1 → ∀ i, n ≤ i → down less n k p f i = f i
  | 0, _, _, _, _, _ => rfl
  | k + 1, p, f, hp, i, hi => by
    rw [down]
    by_cases h1 : n ≤ 2 * p + 1
    · rw [if_pos h1]
    · rw [if_neg h1]
      have hjn := kid_lt (less := less) f (show 2 * p + 1 < n by omega)
      generalize kid less n f p = j at hjn
      by_cases h2 : less (f j) (f p) = true
      · rw [if_pos h2, down_far n k j _ (Or.inl hjn) i hi]
        simp only [swapF]
        rw [if_neg (by omega), if_neg (by omega)]
      · rw [if_neg h2]
/-- As container/heap's Init: down at the places k-1, .., 0. -/
def initF (less : α → α → Bool) (n : Nat) : Nat → (Nat → α) → (Nat → α)
  | 0, f => f
  | k + 1, f => initF less n k (down less n n k f)
theorem init_heap (hw : Weak less) (n : Nat) : ∀ k (f : Nat → α), HeapFrom less k n f → HeapFrom less 0 n (initF less n k f)
  | 0, _, h => h
  | k + 1, f, h => init_heap hw n k _ (down_heap hw k n n k f (by omega) ⟨Nat.le_refl _, fun i hi hk => h i (by omega), fun q hq e => by omega⟩)
theorem half_heap (n : Nat) (f : Nat → α) : HeapFrom less (n / 2) n f := fun i hi c hc hn => by omega
theorem init_all (hw : Weak less) (n : Nat) (f : Nat → α) : HeapFrom less 0 n (initF less n (n / 2) f) := init_heap hw n _ f (half_heap n f)
/-- Pop of n + 1: the first and the last change places, down at 0 below n; what is popped lies at n. -/
def popF (less : α → α → Bool) (n : Nat) (f : Nat → α) : Nat → α := down less n n 0 (swapF f 0 n)
theorem pop_heap (hw : Weak less) (n : Nat) (f : Nat → α) (h : HeapFrom less 0 (n + 1) f) : HeapFrom less 0 n (popF less n f) := by
  refine down_heap hw 0 n n 0 _ (by omega) ⟨Nat.le_refl _, fun i _ hi c hc hn => ?_, fun q _ e => by omega⟩
  have ei : swapF f 0 n i = f i := by simp only [swapF]; rw [if_neg hi, if_neg (by omega)]
  have ec : swapF f 0 n c = f c := by simp only [swapF]; rw [if_neg (by omega), if_neg (by omega)]
  rw [ei, ec]
  exact h i (Nat.zero_le _) c hc (by omega)
theorem pop_least (hw : Weak less) (n : Nat) (f : Nat → α) (h : HeapFrom less 0 (n + 1) f) : popF less n f n = f 0 ∧ ∀ i, i ≤ n → less (f i) (f 0) = false := by
  refine ⟨?_, fun i hi => root_least hw h i (by omega)⟩
  have h0 : 0 < n ∨ n ≤ 2 * 0 + 1 := by omega
  rw [popF, down_far n n 0 _ h0 n (Nat.le_refl _)]
  by_cases e : n = 0
  · subst e; simp [swapF]
  · simp only [swapF]; rw [if_neg e, if_pos True.intro]
/-- The places below n hold the same things, in whatever order. -/
def row (f : Nat → α) (n : Nat) : List α := (List.range n).map f
theorem swap_row (f : Nat → α) (n i j : Nat) (hi : i < n) (hj : j < n) : (row (swapF f i j) n).Perm (row f n) := by
  have h := Array.swap_perm (xs := (row f n).toArray) (i := i) (j := j) (by simp [row, hi]) (by simp [row, hj])
  have e : ((row f n).toArray.swap i j (by simp [row, hi]) (by simp [row, hj])) = (row (swapF f i j) n).toArray := by
    apply Array.ext
    · simp [row]
    · intro k h1 h2
      simp only [row, Array.getElem_swap, List.getElem_toArray, List.getElem_map, List.getElem_range, swapF]
  rw [e] at h
  exact Array.perm_iff_toList_perm.1 h
theorem down_row (n : Nat) : ∀ k p (f : Nat → α), (row (down less n k p f) n).Perm (row f n)
  | 0, _, _ => List.Perm.refl _
  | k + 1, p, f => by
    rw [down]
    by_cases h1 : n ≤ 2 * p + 1
    · rw [if_pos h1]
    · rw [if_neg h1]
      have hjn := kid_lt (less := less) f (show 2 * p + 1 < n by omega)
      generalize kid less n f p = j at hjn
      by_cases h2 : less (f j) (f p) = true
      · rw [if_pos h2]
        exact (down_row n k j _).trans (swap_row f n p j (by omega) hjn)
      · rw [if_neg h2]
theorem init_row (n : Nat) : ∀ k (f : Nat → α), (row (initF less n k f) n).Perm (row f n)
  | 0, _ => List.Perm.refl _
  | k + 1, f => (init_row n k _).trans (down_row n n k f)
theorem row_succ (f : Nat → α) (n : Nat) : row f (n + 1) = row f n ++ [f n] := by simp [row, List.range_succ]
/-- What is left and what is popped are what was there. -/
theorem pop_row (n : Nat) (f : Nat → α) : (row (popF less n f) n ++ [f 0]).Perm (row f (n + 1)) := by
  have h1 : (row (popF less n f) n).Perm (row (swapF f 0 n) n) := down_row n n 0 _
  have h2 := swap_row f (n + 1) 0 n (by omega) (by omega)
  rw [row_succ] at h2
  have e : swapF f 0 n n = f 0 := by
    by_cases e : n = 0
    · subst e; simp [swapF]
    · simp only [swapF]; rw [if_neg e, if_pos True.intro]
  rw [e] at h2
  exact (h1.append_right _).trans h2
/-- All, as they are popped. -/
def pops (less : α → α → Bool) : Nat → (Nat → α) → List α
  | 0, _ => []
  | n + 1, f => f 0 :: pops less n (popF less n f)
theorem pops_row : ∀ n (f : Nat → α), (pops less n f).Perm (row f n)
  | 0, _ => List.Perm.refl _
  | n + 1, f => ((pops_row n _).cons _).trans ((List.perm_append_singleton (f 0) (row (popF less n f) n)).symm.trans (pop_row n f))
def Sorted (less : α → α → Bool) (l : List α) : Prop := l.Pairwise fun a b => less b a = false
theorem mem_row {f : Nat → α} {n : Nat} {x : α} : x ∈ row f n ↔ ∃ i, i < n ∧ f i = x := by simp [row]
theorem pops_sorted (hw : Weak less) : ∀ n (f : Nat → α), HeapFrom less 0 n f → Sorted less (pops less n f)
  | 0, _, _ => List.Pairwise.nil
  | n + 1, f, h => by
    refine List.Pairwise.cons (fun b hb => ?_) (pops_sorted hw n _ (pop_heap hw n f h))
    have h1 : b ∈ row (popF less n f) n := (pops_row n _).mem_iff.1 hb
    have h2 : b ∈ row f (n + 1) := (pop_row n f).mem_iff.1 (List.mem_append_left _ h1)
    obtain ⟨i, hi, rfl⟩ := mem_row.1 h2
    exact (pop_least hw n f h).2 i (by omega)
/-- Of two that differ one is less. -/
def Apart (less : α → α → Bool) (l : List α) : Prop := ∀ a ∈ l, ∀ b ∈ l, less a b = false → less b a = false → a = b
theorem sorted_one : ∀ (l m : List α), l.Perm m → Sorted less l → Sorted less m → Apart less l → l = m
  | [], m, hp, _, _, _ => (List.nil_perm.1 hp).symm
  | a :: l, [], hp, _, _, _ => absurd hp.length_eq (by simp)
  | a :: l, b :: m, hp, hl, hm, hA => by
    have hab : a = b := by
      have ha : a ∈ b :: m := hp.mem_iff.1 (by simp)
      have hb : b ∈ a :: l := hp.mem_iff.2 (by simp)
      rcases List.mem_cons.1 ha with e | ha'
      · exact e
      · rcases List.mem_cons.1 hb with e | hb'
        · exact e.symm
        · exact hA a (by simp) b hb ((List.pairwise_cons.1 hm).1 a ha') ((List.pairwise_cons.1 hl).1 b hb')
    subst hab
    rw [sorted_one l m (List.perm_cons a |>.1 hp) (List.pairwise_cons.1 hl).2 (List.pairwise_cons.1 hm).2 (fun x hx y hy => hA x (List.mem_cons_of_mem _ hx) y (List.mem_cons_of_mem _ hy))]
-- the document's: choosing again and again the first of the best
/-- The place of the first of the best, looking on from i. -/
def best (less : α → α → Bool) (l : List α) (d : α) : Nat → Nat → Nat → Nat
  | 0, _, b => b
  | k + 1, i, b => best less l d k (i + 1) (if less (l.getD i d) (l.getD b d) = true then i else b)
end
end Go.Proofs.Ythnbkhggbfnpcaa.Ev
namespace Go.Proofs.Ythnbkhggbfnpcaa.Ev
set_option linter.unusedVariables false
set_option linter.unusedSimpArgs false
section
variable {α β : Type}
/-- The first order, and where it says nothing the second. -/
def lex (l1 l2 : α → α → Bool) (a b : α) : Bool := l1 a b || (!l1 b a && l2 a b)
theorem lex_false {l1 l2 : α → α → Bool} {a b : α} : lex l1 l2 a b = false ↔ l1 a b = false ∧ (l1 b a = true ∨ l2 a b = false) := by
  unfold lex
  cases l1 a b <;> cases l1 b a <;> cases l2 a b <;> simp
theorem lex_weak {l1 l2 : α → α → Bool} (h1 : Weak l1) (h2 : Weak l2) : Weak (lex l1 l2) := by
  constructor
  · intro a b h
    rw [lex_false]
    unfold lex at h
    cases e : l1 a b with
    | true => exact ⟨h1.asym a b e, Or.inl rfl⟩
    | false =>
      rw [e, Bool.false_or, Bool.and_eq_true] at h
      have e2 : l1 b a = false := by simpa using h.1
      exact ⟨e2, Or.inr (h2.asym a b h.2)⟩
  · intro a b c hab hbc
    rw [lex_false] at hab hbc ⊢
    refine ⟨h1.neg a b c hab.1 hbc.1, ?_⟩
    cases e : l1 c a with
    | true => exact Or.inl rfl
    | false =>
      refine Or.inr ?_
      rcases hab.2 with h | h
      · have := h1.neg b c a hbc.1 e
        rw [h] at this; cases this
      · rcases hbc.2 with h' | h'
        · have := h1.neg c a b e hab.1
          rw [h'] at this; cases this
        · exact h2.neg a b c h h'
theorem weak_of (r : β → β → Bool) (hr : Weak r) (f : α → β) : Weak (fun a b => r (f a) (f b)) := ⟨fun a b h => hr.asym _ _ h, fun a b c h h' => hr.neg _ _ _ h h'⟩
theorem weak_int : Weak (fun a b : Int => decide (b < a)) := ⟨fun a b h => by simp at *; omega, fun a b c h h' => by simp at *; omega⟩
theorem weak_ilt : Weak (fun a b : Int => decide (a < b)) := ⟨fun a b h => by simp at *; omega, fun a b c h h' => by simp at *; omega⟩
theorem weak_nat : Weak (fun a b : Nat => decide (a < b)) := ⟨fun a b h => by simp at *; omega, fun a b c h h' => by simp at *; omega⟩
theorem weak_bool : Weak (fun a b : Bool => !a && b) := ⟨fun a b h => by cases a <;> cases b <;> simp_all, fun a b c h h' => by cases a <;> cases b <;> cases c <;> simp_all⟩
end
/-- A load as the order sees it: is its score none, the score's stand-in, its file, its place. -/
structure Rank where
  no : Bool
  key : Int
  file : List UInt8
  at_ : Nat
/-- A load goes ahead of another one: numbers ahead of none, greater ones first, then by file (of two that are none both keys are 0). -/
def aheadR (fl : List UInt8 → List UInt8 → Bool) : Rank → Rank → Bool := lex (fun a b => !a.no && b.no) (lex (fun a b => decide (b.key < a.key)) (fun a b => fl a.file b.file))
def lessR (fl : List UInt8 → List UInt8 → Bool) : Rank → Rank → Bool := lex (aheadR fl) (fun a b => decide (a.at_ < b.at_))
theorem aheadR_weak {fl : List UInt8 → List UInt8 → Bool} (hf : Weak fl) : Weak (aheadR fl) :=
  lex_weak (weak_of _ weak_bool Rank.no) (lex_weak (weak_of _ weak_int Rank.key) (weak_of _ hf Rank.file))
theorem lessR_weak {fl : List UInt8 → List UInt8 → Bool} (hf : Weak fl) : Weak (lessR fl) := lex_weak (aheadR_weak hf) (weak_of _ weak_nat Rank.at_)
/-- Ranks whose places differ are apart. -/
theorem lessR_apart {fl : List UInt8 → List UInt8 → Bool} (l : List Rank) (h : ∀ a ∈ l, ∀ b ∈ l, a.at_ = b.at_ → a = b) : Apart (lessR fl) l := by
  intro a ha b hb h1 h2
  rw [lessR, lex_false] at h1 h2
  refine h a ha b hb ?_
  have e1 : ¬ a.at_ < b.at_ := by
    rcases h1.2 with e | e
    · rw [h2.1] at e; cases e
    · simpa using e
  have e2 : ¬ b.at_ < a.at_ := by
    rcases h2.2 with e | e
    · rw [h1.1] at e; cases e
    · simpa using e
  omega
/-- What the program and the document ask of two scores and two files. -/
def aheadD (fl : List UInt8 → List UInt8 → Bool) (x y : Ieee.Datum) (fa fb : List UInt8) : Bool :=
  if nanD x = true ∧ nanD y = false ∨ nanD x = false ∧ nanD y = true then nanD y
  else if x.order y = some .gt then true else if x.order y = some .lt then false else fl fa fb
theorem aheadD_rank (fl : List UInt8 → List UInt8 → Bool) {B M : Int} (hM : 0 < M) (x y : Ieee.Datum) (fa fb : List UInt8) (i j : Nat) (hx : Within B M x) (hy : Within B M y) : aheadD fl x y fa fb = aheadR fl ⟨nanD x, keyD B M x, fa, i⟩ ⟨nanD y, keyD B M y, fb, j⟩ := by
  have ho := order_key hM x y hx hy
  have k0 : ∀ d : Ieee.Datum, nanD d = true → keyD B M d = 0 := fun d h => by cases d <;> simp_all [nanD, keyD]
  unfold aheadD aheadR lex
  cases ex : nanD x with
  | true =>
    cases ey : nanD y with
    | true =>
      rw [ex] at ho
      rw [if_pos (Or.inl rfl)] at ho
      simp [ho, k0 x ex, k0 y ey]
    | false => simp
  | false =>
    cases ey : nanD y with
    | true => simp
    | false =>
      rw [ex, ey, if_neg (by simp)] at ho
      rw [ho]
      by_cases h1 : keyD B M x < keyD B M y
      · simp [cmp_lt h1, h1, show ¬ keyD B M y < keyD B M x by omega]
      · by_cases h2 : keyD B M y < keyD B M x
        · simp [cmp_gt h2, h2]
        · have e : keyD B M x = keyD B M y := by omega
          simp [e, cmp_eq]
end Go.Proofs.Ythnbkhggbfnpcaa.Ev
namespace Go.Proofs.Ythnbkhggbfnpcaa.Ev
set_option linter.unusedVariables false
set_option linter.unusedSimpArgs false
section
variable {α : Type} (l1 : α → α → Bool) (d : α)
def chosen (l : List α) : Nat := best l1 l d (l.length - 1) 1 0
def orderL : Nat → List α → List α
  | 0, _ => []
  | n + 1, l => l.getD (chosen l1 d l) d :: orderL n (l.eraseIdx (chosen l1 d l))
variable {l1 d}
theorem best_spec (hw : Weak l1) (l : List α) : ∀ k i b, b < i → i + k = l.length → (∀ j, j < i → l1 (l.getD j d) (l.getD b d) = false) → (∀ j, j < b → l1 (l.getD b d) (l.getD j d) = true) →
    best l1 l d k i b < l.length ∧ (∀ j, j < l.length → l1 (l.getD j d) (l.getD (best l1 l d k i b) d) = false) ∧ ∀ j, j < best l1 l d k i b → l1 (l.getD (best l1 l d k i b) d) (l.getD j d) = true
  | 0, i, b, hb, hi, h1, h2 => by
    show b < l.length ∧ _ ∧ _
    exact ⟨by omega, fun j hj => h1 j (by omega), h2⟩
  | k + 1, i, b, hb, hi, h1, h2 => by
    rw [best]
    by_cases e : l1 (l.getD i d) (l.getD b d) = true
    · rw [if_pos e]
      have hall : ∀ j, j < i → l1 (l.getD i d) (l.getD j d) = true := fun j hj => by
        cases q : l1 (l.getD i d) (l.getD j d) with
        | true => rfl
        | false => have := hw.neg _ _ _ q (h1 j hj); rw [e] at this; cases this
      refine best_spec hw l k (i + 1) i (by omega) (by omega) (fun j hj => ?_) hall
      by_cases q : j = i
      · subst q; exact hw.irr _
      · exact hw.asym _ _ (hall j (by omega))
    · rw [if_neg e]
      refine best_spec hw l k (i + 1) b (by omega) (by omega) (fun j hj => ?_) h2
      by_cases q : j = i
      · subst q; exact Bool.eq_false_iff.2 e
      · exact h1 j (by omega)
theorem chosen_spec (hw : Weak l1) (l : List α) (hl : 0 < l.length) : chosen l1 d l < l.length ∧ (∀ j, j < l.length → l1 (l.getD j d) (l.getD (chosen l1 d l) d) = false) ∧ ∀ j, j < chosen l1 d l → l1 (l.getD (chosen l1 d l) d) (l.getD j d) = true :=
  best_spec hw l (l.length - 1) 1 0 (by omega) (by omega) (fun j hj => by obtain rfl : j = 0 := by omega
                                                                          exact hw.irr _) (fun j hj => by omega)
theorem cons_erase : ∀ (l : List α) (i : Nat) (h : i < l.length), (l[i] :: l.eraseIdx i).Perm l
  | x :: xs, 0, _ => List.Perm.refl _
  | x :: xs, i + 1, h => by
    have h1 : i < xs.length := by simpa using h
    exact (List.Perm.swap x xs[i] (xs.eraseIdx i)).trans ((cons_erase xs i h1).cons x)
theorem order_perm (hw : Weak l1) : ∀ n (l : List α), l.length = n → (orderL l1 d n l).Perm l
  | 0, l, h => by rw [List.length_eq_zero_iff.1 h]; exact List.Perm.refl _
  | n + 1, l, h => by
    have hb := (chosen_spec (d := d) hw l (by omega)).1
    rw [orderL]
    have h2 := order_perm hw n (l.eraseIdx (chosen l1 d l)) (by rw [List.length_eraseIdx_of_lt hb]; omega)
    refine (h2.cons _).trans ?_
    have e : l.getD (chosen l1 d l) d = l[chosen l1 d l] := by simp [List.getD, List.getElem?_eq_getElem hb]
    rw [e]
    exact cons_erase l _ hb
/-- With places that rise along the list, what is chosen is the least of all: so the order is sorted, ties by place. -/
theorem order_sorted (hw : Weak l1) (p : α → Int) : ∀ n (l : List α), l.length = n → l.Pairwise (fun a b => p a < p b) → Sorted (lex l1 (fun a b => decide (p a < p b))) (orderL l1 d n l)
  | 0, _, _, _ => List.Pairwise.nil
  | n + 1, l, h, hp => by
    obtain ⟨hb, hs, hf⟩ := chosen_spec (d := d) hw l (by omega)
    rw [orderL]
    generalize chosen l1 d l = b at hb hs hf
    refine List.Pairwise.cons (fun x hx => ?_) (order_sorted hw p n _ (by rw [List.length_eraseIdx_of_lt hb]; omega) (hp.sublist (List.eraseIdx_sublist l b)))
    have hx2 : x ∈ l.eraseIdx b := (order_perm (d := d) hw n _ (by rw [List.length_eraseIdx_of_lt hb]; omega)).mem_iff.1 hx
    obtain ⟨j, hj, hjb, rfl⟩ := List.mem_eraseIdx_iff_getElem.1 hx2
    have eb : l.getD b d = l[b] := by simp [List.getD, List.getElem?_eq_getElem hb]
    have ej : l.getD j d = l[j] := by simp [List.getD, List.getElem?_eq_getElem hj]
    have h1 := hs j hj
    rw [lex_false, ← ej]
    refine ⟨h1, ?_⟩
    by_cases q : j < b
    · exact Or.inl (hf j q)
    · have hlt : b < j := by omega
      have := List.pairwise_iff_getElem.1 hp b j hb hj hlt
      refine Or.inr ?_
      rw [ej, eb]
      simp; omega
theorem row_getD (l : List α) (d : α) : row (fun i => l.getD i d) l.length = l := by
  apply List.ext_getElem
  · simp [row]
  · intro i h1 h2
    simp [row, List.getD, List.getElem?_eq_getElem h2]
theorem places_apart (l1 : α → α → Bool) (p : α → Int) (l : List α) (hp : l.Pairwise (fun a b => p a < p b)) : Apart (lex l1 (fun a b => decide (p a < p b))) l := by
  intro a ha b hb h1 h2
  rw [lex_false] at h1 h2
  have e1 : ¬ p a < p b := by
    rcases h1.2 with e | e
    · rw [h2.1] at e; cases e
    · simpa using e
  have e2 : ¬ p b < p a := by
    rcases h2.2 with e | e
    · rw [h1.1] at e; cases e
    · simpa using e
  obtain ⟨i, hi, rfl⟩ := List.getElem_of_mem ha
  obtain ⟨j, hj, rfl⟩ := List.getElem_of_mem hb
  rcases Nat.lt_trichotomy i j with q | q | q
  · exact absurd (List.pairwise_iff_getElem.1 hp i j hi hj q) e1
  · subst q; rfl
  · exact absurd (List.pairwise_iff_getElem.1 hp j i hj hi q) e2
/-- What the heap pops, one behind the other, is the document's order. -/
theorem pops_order (hw : Weak l1) (p : α → Int) (l : List α) (hp : l.Pairwise (fun a b => p a < p b)) :
    pops (lex l1 (fun a b => decide (p a < p b))) l.length (initF (lex l1 (fun a b => decide (p a < p b))) l.length (l.length / 2) (fun i => l.getD i d)) = orderL l1 d l.length l := by
  have hl : Weak (lex l1 (fun a b => decide (p a < p b))) := lex_weak hw (weak_of _ weak_ilt p)
  have h1 : (pops (lex l1 (fun a b => decide (p a < p b))) l.length (initF (lex l1 (fun a b => decide (p a < p b))) l.length (l.length / 2) (fun i => l.getD i d))).Perm l := by
    refine (pops_row _ _).trans ((init_row _ _ _).trans ?_)
    rw [row_getD]
  have h2 := order_perm (d := d) hw l.length l rfl
  refine sorted_one _ _ (h1.trans h2.symm) (pops_sorted hl _ _ (init_all hl _ _)) (order_sorted hw p _ l rfl hp) ?_
  exact fun a ha b hb => places_apart l1 p l hp a (h1.mem_iff.1 ha) b (h1.mem_iff.1 hb)
end
end Go.Proofs.Ythnbkhggbfnpcaa.Ev
