/- evict: what the heap takes is what the document chooses. Plain, no program in sight. -/
import Derived.Test.YthnbkhggbfnpcaaEvRUntil
namespace Go.Proofs.Ythnbkhggbfnpcaa.Ev
open Go.Proofs.Ythnbkhggbfnpcaa.GEv Go.RowKit
set_option linter.unusedSimpArgs false
set_option linter.unusedVariables false
/-! ### places below n alone count -/
section
variable {α : Type} {less : α → α → Bool}
theorem kid_same {n : Nat} {f g : Nat → α} (h : ∀ i, i < n → f i = g i) (i : Nat) (hi : 2 * i + 1 < n) : kid less n f i = kid less n g i := by
  unfold kid
  by_cases q : 2 * i + 2 < n
  · rw [h _ q, h _ hi]
  · rw [if_neg (fun e => q e.1), if_neg (fun e => q e.1)]
theorem swap_same {n : Nat} {f g : Nat → α} (h : ∀ i, i < n → f i = g i) (p j : Nat) (hp : p < n) (hj : j < n) : ∀ i, i < n → swapF f p j i = swapF g p j i := by
  intro i hi
  simp only [swapF, h _ hp, h _ hj, h _ hi]
theorem down_same {n : Nat} : ∀ k p {f g : Nat → α}, (∀ i, i < n → f i = g i) → ∀ i, i < n → down less n k p f i = down less n k p g i
  | 0, _, _, _, h => h
  | k + 1, p, f, g, h => by
    rw [down, down]
    by_cases h1 : n ≤ 2 * p + 1
    · rw [if_pos h1, if_pos h1]; exact h
    · have hk := kid_same (less := less) h p (by omega)
      have hl := kid_lt (less := less) g (i := p) (show 2 * p + 1 < n by omega)
      rw [if_neg h1, if_neg h1, hk, h _ hl, h _ (show p < n by omega)]
      by_cases h2 : less (g (kid less n g p)) (g p) = true
      · rw [if_pos h2, if_pos h2]
        exact down_same k _ (swap_same h p _ (by omega) hl)
      · rw [if_neg h2, if_neg h2]; exact h
theorem init_same {n : Nat} : ∀ k {f g : Nat → α}, (∀ i, i < n → f i = g i) → ∀ i, i < n → initF less n k f i = initF less n k g i
  | 0, _, _, h => h
  | k + 1, _, _, h => init_same k (down_same n k h)
theorem pop_last (n : Nat) (f : Nat → α) : popF less n f n = f 0 := by
  rw [popF, down_far n n 0 _ (by omega) n (Nat.le_refl _)]
  by_cases e : n = 0
  · subst e; simp [swapF]
  · simp only [swapF]; rw [if_neg e, if_pos True.intro]
theorem popF_same {n : Nat} {f g : Nat → α} (h : ∀ i, i < n + 1 → f i = g i) : ∀ i, i < n → popF less n f i = popF less n g i := by
  unfold popF
  exact down_same n 0 (fun i hi => swap_same h 0 n (by omega) (by omega) i (by omega))
theorem pops_same : ∀ n {f g : Nat → α}, (∀ i, i < n → f i = g i) → pops less n f = pops less n g
  | 0, _, _, _ => rfl
  | n + 1, f, g, h => by
    rw [pops, pops, h 0 (by omega), pops_same n (popF_same h)]
end
/-! ### the strings' order is weak; loads' too -/
theorem bytes_asym : ∀ x y : List UInt8, Op.bytesLess x y = true → Op.bytesLess y x = false
  | [], [] => fun h => by simp [Op.bytesLess] at h
  | [], _ :: _ => fun _ => by simp [Op.bytesLess]
  | _ :: _, [] => fun h => by simp [Op.bytesLess] at h
  | a :: x, b :: y => fun h => by
    simp only [Op.bytesLess, Bool.or_eq_true, Bool.and_eq_true, decide_eq_true_eq, beq_iff_eq] at h
    simp only [Op.bytesLess, Bool.or_eq_false_iff, decide_eq_false_iff_not, Bool.and_eq_false_iff]
    rcases h with h | ⟨rfl, h⟩
    · have h1 : a.toNat < b.toNat := h
      exact ⟨fun e => by have : b.toNat < a.toNat := e; omega, Or.inl (by simp only [beq_eq_false_iff_ne]; intro e; subst e; omega)⟩
    · exact ⟨fun e => by have : a.toNat < a.toNat := e; omega, Or.inr (bytes_asym x y h)⟩
theorem bytes_neg : ∀ x y z : List UInt8, Op.bytesLess x y = false → Op.bytesLess y z = false → Op.bytesLess x z = false
  | _, _, [] => fun _ _ => by simp [Op.bytesLess]
  | _, [], c :: z => fun _ h => by simp [Op.bytesLess] at h
  | [], b :: y, c :: z => fun h _ => by simp [Op.bytesLess] at h
  | a :: x, b :: y, c :: z => fun h1 h2 => by
    simp only [Op.bytesLess, Bool.or_eq_false_iff, decide_eq_false_iff_not, Bool.and_eq_false_iff, beq_eq_false_iff_ne] at h1 h2 ⊢
    have e1 : ¬ a.toNat < b.toNat := h1.1
    have e2 : ¬ b.toNat < c.toNat := h2.1
    refine ⟨fun e => by have : a.toNat < c.toNat := e; omega, ?_⟩
    by_cases q : a = c
    · subst q
      have hb : a = b := UInt8.toNat_inj.1 (by omega)
      subst hb
      refine Or.inr ?_
      rcases h1.2 with h | h
      · exact absurd rfl h
      · rcases h2.2 with h' | h'
        · exact absurd rfl h'
        · exact bytes_neg x y z h h'
    · exact Or.inl q
theorem bytes_weak : Weak Op.bytesLess := ⟨bytes_asym, bytes_neg⟩
theorem aheadI_weak : Weak aheadI := by
  constructor
  · intro a b h
    obtain ⟨B, M, hM, hW⟩ := within_all [scoreD a.f0.f1 a.f0.f2, scoreD b.f0.f1 b.f0.f2]
    have wa := hW (scoreD a.f0.f1 a.f0.f2) (by simp)
    have wb := hW (scoreD b.f0.f1 b.f0.f2) (by simp)
    unfold aheadI aheadB at h ⊢
    rw [aheadD_rank _ hM _ _ _ _ 0 0 wa wb] at h
    rw [aheadD_rank _ hM _ _ _ _ 0 0 wb wa]
    exact (aheadR_weak bytes_weak).asym _ _ h
  · intro a b c h k
    obtain ⟨B, M, hM, hW⟩ := within_all [scoreD a.f0.f1 a.f0.f2, scoreD b.f0.f1 b.f0.f2, scoreD c.f0.f1 c.f0.f2]
    have wa := hW (scoreD a.f0.f1 a.f0.f2) (by simp)
    have wb := hW (scoreD b.f0.f1 b.f0.f2) (by simp)
    have wc := hW (scoreD c.f0.f1 c.f0.f2) (by simp)
    unfold aheadI aheadB at h k ⊢
    rw [aheadD_rank _ hM _ _ _ _ 0 0 wa wb] at h
    rw [aheadD_rank _ hM _ _ _ _ 0 0 wb wc] at k
    rw [aheadD_rank _ hM _ _ _ _ 0 0 wa wc]
    exact (aheadR_weak bytes_weak).neg _ _ _ h k
/-! ### what is popped: the items in the document's order -/
def items (l : List S27) : List S55 := row (itemF l) l.length
theorem items_len (l : List S27) : (items l).length = l.length := row_len _ _
theorem items_rise (l : List S27) : (items l).Pairwise (fun a b => a.f1 < b.f1) := by
  unfold items row
  rw [List.pairwise_map]
  exact List.pairwise_lt_range.imp (fun h => by show (_ : Int) < _; simp only [itemF]; omega)
theorem pops_items (l : List S27) : pops lessI l.length (heapOf l) = orderL aheadI z55 l.length (items l) := by
  have h := pops_order (d := z55) aheadI_weak (fun x : S55 => x.f1) (items l) (items_rise l)
  rw [items_len] at h
  rw [← h]
  unfold heapOf
  refine pops_same _ (init_same _ (fun i hi => ?_))
  have : i < (items l).length := by rw [items_len]; exact hi
  simp [List.getD, items, row, hi]
/-- As long as more are wanted, along a list. -/
def runL {σ : Type} (step : σ → S27 → Bool × σ) : List S55 → σ → List ByteArray
  | [], _ => []
  | x :: xs, s => x.f0.f0 :: (if (step s x.f0).1 = true then runL step xs (step s x.f0).2 else [])
theorem takeL_run {σ : Type} (step : σ → S27 → Bool × σ) : ∀ n (f : Nat → S55) (s : σ), takeL step n f s = runL step (pops lessI n f) s
  | 0, _, _ => rfl
  | n + 1, f, s => by
    rw [takeL, pops, runL, pop_last, takeL_run step n]
end Go.Proofs.Ythnbkhggbfnpcaa.Ev
