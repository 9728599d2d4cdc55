/- A heap over places 0..n-1, as container/heap keeps it: down mends one place; the root is the least. Plain, no program in sight. -/
namespace Go.Proofs.Ythnbkhggbfnpcaa.Ev
set_option linter.unusedVariables false
set_option linter.unusedSimpArgs false
section
variable {α : Type} (less : α → α → Bool)
/-- Strict, and what isn't less goes on. -/
structure Weak : Prop where
  asym : ∀ a b, less a b = true → less b a = false
  neg : ∀ a b c, less a b = false → less b c = false → less a c = false
def swapF (f : Nat → α) (i j : Nat) : Nat → α := fun k => if k = i then f j else if k = j then f i else f k
def kid (n : Nat) (f : Nat → α) (i : Nat) : Nat := if 2 * i + 2 < n ∧ less (f (2 * i + 2)) (f (2 * i + 1)) = true then 2 * i + 2 else 2 * i + 1
def down (n : Nat) : Nat → Nat → (Nat → α) → (Nat → α)
  | 0, _, f => f
  | k + 1, i, f => if n ≤ 2 * i + 1 then f else if less (f (kid less n f i)) (f i) = true then down n k (kid less n f i) (swapF f i (kid less n f i)) else f
def OkAt (n : Nat) (f : Nat → α) (i : Nat) : Prop := ∀ c, (c = 2 * i + 1 ∨ c = 2 * i + 2) → c < n → less (f c) (f i) = false
def HeapFrom (r n : Nat) (f : Nat → α) : Prop := ∀ i, r ≤ i → OkAt less n f i
structure Inv (r n p : Nat) (f : Nat → α) : Prop where
  ge : r ≤ p
  ok : ∀ i, r ≤ i → i ≠ p → OkAt less n f i
  up : ∀ q, r ≤ q → (p = 2 * q + 1 ∨ p = 2 * q + 2) → ∀ c, (c = 2 * p + 1 ∨ c = 2 * p + 2) → c < n → less (f c) (f q) = false
variable {less}
theorem kid_or (n : Nat) (f : Nat → α) (i : Nat) : kid less n f i = 2 * i + 1 ∨ kid less n f i = 2 * i + 2 := by unfold kid; split <;> simp
theorem kid_lt {n : Nat} (f : Nat → α) {i : Nat} (h : 2 * i + 1 < n) : kid less n f i < n := by unfold kid; split <;> omega
theorem Weak.irr (hw : Weak less) (a : α) : less a a = false := by
  cases h : less a a with
  | false => rfl
  | true => have := hw.asym a a h; rw [h] at this; cases this
/-- No child is less than the chosen one. -/
theorem kid_least (hw : Weak less) {n : Nat} (f : Nat → α) (i c : Nat) (hc : c = 2 * i + 1 ∨ c = 2 * i + 2) (hn : c < n) : less (f c) (f (kid less n f i)) = false := by
  unfold kid
  split
  · rename_i h
    rcases hc with rfl | rfl
    · exact hw.asym _ _ h.2
    · exact hw.irr _
  · rename_i h
    rcases hc with rfl | rfl
    · exact hw.irr _
    · cases e : less (f (2 * i + 2)) (f (2 * i + 1)) with
      | false => rfl
      | true => exact absurd ⟨hn, e⟩ h
theorem down_heap (hw : Weak less) (r n : Nat) : ∀ k p (f : Nat → α), n ≤ p + k → Inv less r n p f → HeapFrom less r n (down less n k p f)
  | 0, p, f, hk, h => fun i hi => by
    show OkAt less n f i
    intro c hc hn
    exact h.ok i hi (by omega) c hc hn
  | k + 1, p, f, hk, h => by
    rw [down]
    by_cases h1 : n ≤ 2 * p + 1
    · rw [if_pos h1]
      intro i hi
      by_cases e : i = p
      · subst e; intro c hc hn; omega
      · exact h.ok i hi e
    · rw [if_neg h1]
      have hj := kid_or (less := less) n f p
      have hjn := kid_lt (less := less) f (show 2 * p + 1 < n by omega)
      have hl := fun c hc hn => kid_least hw (n := n) f p c hc hn
      generalize kid less n f p = j at hj hjn hl
      by_cases h2 : less (f j) (f p) = true
      · rw [if_pos h2]
        refine down_heap hw r n k j (swapF f p j) (by omega) ⟨by have := h.ge; omega, ?_, ?_⟩
        · intro i hi hij c hc hn
          by_cases hip : i = p
          · subst hip
            have ei : swapF f i j i = f j := by simp [swapF]
            rw [ei]
            by_cases hcj : c = j
            · subst hcj
              have ec : swapF f i c c = f i := by simp only [swapF]; rw [if_neg (by omega), if_pos True.intro]
              rw [ec]
              exact hw.asym _ _ h2
            · have ec : swapF f i j c = f c := by simp only [swapF]; rw [if_neg (by omega), if_neg hcj]
              rw [ec]
              exact hl c hc hn
          · have ei : swapF f p j i = f i := by simp only [swapF]; rw [if_neg hip, if_neg hij]
            rw [ei]
            by_cases hcp : c = p
            · subst hcp
              have ec : swapF f c j c = f j := by simp [swapF]
              rw [ec]
              exact h.up i hi hc j hj hjn
            · have hcj : c ≠ j := by omega
              have ec : swapF f p j c = f c := by simp only [swapF]; rw [if_neg hcp, if_neg hcj]
              rw [ec]
              exact h.ok i hi hip c hc hn
        · intro q hq hqj c hc hn
          have hqp : q = p := by omega
          subst hqp
          have eq : swapF f q j q = f j := by simp [swapF]
          have ec : swapF f q j c = f c := by simp only [swapF]; rw [if_neg (by omega), if_neg (by omega)]
          rw [eq, ec]
          exact h.ok j (by omega) (by omega) c hc hn
      · rw [if_neg h2]
        intro i hi
        by_cases e : i = p
        · subst e
          intro c hc hn
          exact hw.neg _ _ _ (hl c hc hn) (Bool.eq_false_iff.2 h2)
        · exact h.ok i hi e
theorem root_least (hw : Weak less) {n : Nat} {f : Nat → α} (h : HeapFrom less 0 n f) : ∀ i, i < n → less (f i) (f 0) = false := by
  intro i
  induction i using Nat.strongRecOn with
  | _ i ih =>
    intro hi
    by_cases e : i = 0
    · subst e; exact hw.irr _
    · have hp : (i - 1) / 2 < i := by omega
      exact hw.neg _ _ _ (h ((i - 1) / 2) (Nat.zero_le _) i (by omega) hi) (ih _ hp (by omega))
/-- Down leaves alone all places that aren't below n. -/
theorem down_far (n : Nat) : ∀ k p (f : Nat → α), p < n ∨ n ≤ 2 * p + 1 → ∀ i, n ≤ i → down less n k p f i = f i
  | 0, _, _, _, _, _ => rfl
  | k + 1, p, f, hp, i, hi => by
    rw [down]
    by_cases h1 : n ≤ 2 * p + 1
    · rw [if_pos h1]
    · rw [if_neg h1]
      have hjn := kid_lt (less := less) f (show 2 * p + 1 < n by omega)
      generalize kid less n f p = j at hjn
      by_cases h2 : less (f j) (f p) = true
      · rw [if_pos h2, down_far n k j _ (Or.inl hjn) i hi]
        simp only [swapF]
        rw [if_neg (by omega), if_neg (by omega)]
      · rw [if_neg h2]
/-- As container/heap's Init: down at the places k-1, .., 0. -/
def initF (less : α → α → Bool) (n : Nat) : Nat → (Nat → α) → (Nat → α)
  | 0, f => f
  | k + 1, f => initF less n k (down less n n k f)
theorem init_heap (hw : Weak less) (n : Nat) : ∀ k (f : Nat → α), HeapFrom less k n f → HeapFrom less 0 n (initF less n k f)
  | 0, _, h => h
  | k + 1, f, h => init_heap hw n k _ (down_heap hw k n n k f (by omega) ⟨Nat.le_refl _, fun i hi hk => h i (by omega), fun q hq e => by omega⟩)
theorem half_heap (n : Nat) (f : Nat → α) : HeapFrom less (n / 2) n f := fun i hi c hc hn => by omega
theorem init_all (hw : Weak less) (n : Nat) (f : Nat → α) : HeapFrom less 0 n (initF less n (n / 2) f) := init_heap hw n _ f (half_heap n f)
/-- Pop of n + 1: the first and the last change places, down at 0 below n; what is popped lies at n. -/
def popF (less : α → α → Bool) (n : Nat) (f : Nat → α) : Nat → α := down less n n 0 (swapF f 0 n)
theorem pop_heap (hw : Weak less) (n : Nat) (f : Nat → α) (h : HeapFrom less 0 (n + 1) f) : HeapFrom less 0 n (popF less n f) := by
  refine down_heap hw 0 n n 0 _ (by omega) ⟨Nat.le_refl _, fun i _ hi c hc hn => ?_, fun q _ e => by omega⟩
  have ei : swapF f 0 n i = f i := by simp only [swapF]; rw [if_neg hi, if_neg (by omega)]
  have ec : swapF f 0 n c = f c := by simp only [swapF]; rw [if_neg (by omega), if_neg (by omega)]
  rw [ei, ec]
  exact h i (Nat.zero_le _) c hc (by omega)
theorem pop_least (hw : Weak less) (n : Nat) (f : Nat → α) (h : HeapFrom less 0 (n + 1) f) : popF less n f n = f 0 ∧ ∀ i, i ≤ n → less (f i) (f 0) = false := by
  refine ⟨?_, fun i hi => root_least hw h i (by omega)⟩
  have h0 : 0 < n ∨ n ≤ 2 * 0 + 1 := by omega
  rw [popF, down_far n n 0 _ h0 n (Nat.le_refl _)]
  by_cases e : n = 0
  · subst e; simp [swapF]
  · simp only [swapF]; rw [if_neg e, if_pos True.intro]
/-- The places below n hold the same things, in whatever order. -/
def row (f : Nat → α) (n : Nat) : List α := (List.range n).map f
theorem swap_row (f : Nat → α) (n i j : Nat) (hi : i < n) (hj : j < n) : (row (swapF f i j) n).Perm (row f n) := by
  have h := Array.swap_perm (xs := (row f n).toArray) (i := i) (j := j) (by simp [row, hi]) (by simp [row, hj])
  have e : ((row f n).toArray.swap i j (by simp [row, hi]) (by simp [row, hj])) = (row (swapF f i j) n).toArray := by
    apply Array.ext
    · simp [row]
    · intro k h1 h2
      simp only [row, Array.getElem_swap, List.getElem_toArray, List.getElem_map, List.getElem_range, swapF]
  rw [e] at h
  exact Array.perm_iff_toList_perm.1 h
theorem down_row (n : Nat) : ∀ k p (f : Nat → α), (row (down less n k p f) n).Perm (row f n)
  | 0, _, _ => List.Perm.refl _
  | k + 1, p, f => by
    rw [down]
    by_cases h1 : n ≤ 2 * p + 1
    · rw [if_pos h1]
    · rw [if_neg h1]
      have hjn := kid_lt (less := less) f (show 2 * p + 1 < n by omega)
      generalize kid less n f p = j at hjn
      by_cases h2 : less (f j) (f p) = true
      · rw [if_pos h2]
        exact (down_row n k j _).trans (swap_row f n p j (by omega) hjn)
      · rw [if_neg h2]
theorem init_row (n : Nat) : ∀ k (f : Nat → α), (row (initF less n k f) n).Perm (row f n)
  | 0, _ => List.Perm.refl _
  | k + 1, f => (init_row n k _).trans (down_row n n k f)
theorem row_succ (f : Nat → α) (n : Nat) : row f (n + 1) = row f n ++ [f n] := by simp [row, List.range_succ]
/-- What is left and what is popped are what was there. -/
theorem pop_row (n : Nat) (f : Nat → α) : (row (popF less n f) n ++ [f 0]).Perm (row f (n + 1)) := by
  have h1 : (row (popF less n f) n).Perm (row (swapF f 0 n) n) := down_row n n 0 _
  have h2 := swap_row f (n + 1) 0 n (by omega) (by omega)
  rw [row_succ] at h2
  have e : swapF f 0 n n = f 0 := by
    by_cases e : n = 0
    · subst e; simp [swapF]
    · simp only [swapF]; rw [if_neg e, if_pos True.intro]
  rw [e] at h2
  exact (h1.append_right _).trans h2
/-- All, as they are popped. -/
def pops (less : α → α → Bool) : Nat → (Nat → α) → List α
  | 0, _ => []
  | n + 1, f => f 0 :: pops less n (popF less n f)
theorem pops_row : ∀ n (f : Nat → α), (pops less n f).Perm (row f n)
  | 0, _ => List.Perm.refl _
  | n + 1, f => ((pops_row n _).cons _).trans ((List.perm_append_singleton (f 0) (row (popF less n f) n)).symm.trans (pop_row n f))
def Sorted (less : α → α → Bool) (l : List α) : Prop := l.Pairwise fun a b => less b a = false
theorem mem_row {f : Nat → α} {n : Nat} {x : α} : x ∈ row f n ↔ ∃ i, i < n ∧ f i = x := by simp [row]
theorem pops_sorted (hw : Weak less) : ∀ n (f : Nat → α), HeapFrom less 0 n f → Sorted less (pops less n f)
  | 0, _, _ => List.Pairwise.nil
  | n + 1, f, h => by
    refine List.Pairwise.cons (fun b hb => ?_) (pops_sorted hw n _ (pop_heap hw n f h))
    have h1 : b ∈ row (popF less n f) n := (pops_row n _).mem_iff.1 hb
    have h2 : b ∈ row f (n + 1) := (pop_row n f).mem_iff.1 (List.mem_append_left _ h1)
    obtain ⟨i, hi, rfl⟩ := mem_row.1 h2
    exact (pop_least hw n f h).2 i (by omega)
/-- Of two that differ one is less. -/
def Apart (less : α → α → Bool) (l : List α) : Prop := ∀ a ∈ l, ∀ b ∈ l, less a b = false → less b a = false → a = b
theorem sorted_one : ∀ (l m : List α), l.Perm m → Sorted less l → Sorted less m → Apart less l → l = m
  | [], m, hp, _, _, _ => (List.nil_perm.1 hp).symm
  | a :: l, [], hp, _, _, _ => absurd hp.length_eq (by simp)
  | a :: l, b :: m, hp, hl, hm, hA => by
    have hab : a = b := by
      have ha : a ∈ b :: m := hp.mem_iff.1 (by simp)
      have hb : b ∈ a :: l := hp.mem_iff.2 (by simp)
      rcases List.mem_cons.1 ha with e | ha'
      · exact e
      · rcases List.mem_cons.1 hb with e | hb'
        · exact e.symm
        · exact hA a (by simp) b hb ((List.pairwise_cons.1 hm).1 a ha') ((List.pairwise_cons.1 hl).1 b hb')
    subst hab
    rw [sorted_one l m (List.perm_cons a |>.1 hp) (List.pairwise_cons.1 hl).2 (List.pairwise_cons.1 hm).2 (fun x hx y hy => hA x (List.mem_cons_of_mem _ hx) y (List.mem_cons_of_mem _ hy))]
-- the document's: choosing again and again the first of the best
/-- The place of the first of the best, looking on from i. -/
def best (less : α → α → Bool) (l : List α) (d : α) : Nat → Nat → Nat → Nat
  | 0, _, b => b
  | k + 1, i, b => best less l d k (i + 1) (if less (l.getD i d) (l.getD b d) = true then i else b)
end
end Go.Proofs.Ythnbkhggbfnpcaa.Ev
