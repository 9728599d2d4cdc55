/- Choosing again and again the first of the best: a sorted list of the same things. Plain, no program in sight. -/
import Derived.Test.YthnbkhggbfnpcaaEvLex
namespace Go.Proofs.Ythnbkhggbfnpcaa.Ev
set_option linter.unusedVariables false
set_option linter.unusedSimpArgs false
section
variable {α : Type} (l1 : α → α → Bool) (d : α)
def chosen (l : List α) : Nat := best l1 l d (l.length - 1) 1 0
def orderL : Nat → List α → List α
  | 0, _ => []
  | n + 1, l => l.getD (chosen l1 d l) d :: orderL n (l.eraseIdx (chosen l1 d l))
variable {l1 d}
theorem best_spec (hw : Weak l1) (l : List α) : ∀ k i b, b < i → i + k = l.length → (∀ j, j < i → l1 (l.getD j d) (l.getD b d) = false) → (∀ j, j < b → l1 (l.getD b d) (l.getD j d) = true) →
    best l1 l d k i b < l.length ∧ (∀ j, j < l.length → l1 (l.getD j d) (l.getD (best l1 l d k i b) d) = false) ∧ ∀ j, j < best l1 l d k i b → l1 (l.getD (best l1 l d k i b) d) (l.getD j d) = true
  | 0, i, b, hb, hi, h1, h2 => by
    show b < l.length ∧ _ ∧ _
    exact ⟨by omega, fun j hj => h1 j (by omega), h2⟩
  | k + 1, i, b, hb, hi, h1, h2 => by
    rw [best]
    by_cases e : l1 (l.getD i d) (l.getD b d) = true
    · rw [if_pos e]
      have hall : ∀ j, j < i → l1 (l.getD i d) (l.getD j d) = true := fun j hj => by
        cases q : l1 (l.getD i d) (l.getD j d) with
        | true => rfl
        | false => have := hw.neg _ _ _ q (h1 j hj); rw [e] at this; cases this
      refine best_spec hw l k (i + 1) i (by omega) (by omega) (fun j hj => ?_) hall
      by_cases q : j = i
      · subst q; exact hw.irr _
      · exact hw.asym _ _ (hall j (by omega))
    · rw [if_neg e]
      refine best_spec hw l k (i + 1) b (by omega) (by omega) (fun j hj => ?_) h2
      by_cases q : j = i
      · subst q; exact Bool.eq_false_iff.2 e
      · exact h1 j (by omega)
theorem chosen_spec (hw : Weak l1) (l : List α) (hl : 0 < l.length) : chosen l1 d l < l.length ∧ (∀ j, j < l.length → l1 (l.getD j d) (l.getD (chosen l1 d l) d) = false) ∧ ∀ j, j < chosen l1 d l → l1 (l.getD (chosen l1 d l) d) (l.getD j d) = true :=
  best_spec hw l (l.length - 1) 1 0 (by omega) (by omega) (fun j hj => by obtain rfl : j = 0 := by omega
                                                                          exact hw.irr _) (fun j hj => by omega)
theorem cons_erase : ∀ (l : List α) (i : Nat) (h : i < l.length), (l[i] :: l.eraseIdx i).Perm l
  | x :: xs, 0, _ => List.Perm.refl _
  | x :: xs, i + 1, h => by
    have h1 : i < xs.length := by simpa using h
    exact (List.Perm.swap x xs[i] (xs.eraseIdx i)).trans ((cons_erase xs i h1).cons x)
theorem order_perm (hw : Weak l1) : ∀ n (l : List α), l.length = n → (orderL l1 d n l).Perm l
  | 0, l, h => by rw [List.length_eq_zero_iff.1 h]; exact List.Perm.refl _
  | n + 1, l, h => by
    have hb := (chosen_spec (d := d) hw l (by omega)).1
    rw [orderL]
    have h2 := order_perm hw n (l.eraseIdx (chosen l1 d l)) (by rw [List.length_eraseIdx_of_lt hb]; omega)
    refine (h2.cons _).trans ?_
    have e : l.getD (chosen l1 d l) d = l[chosen l1 d l] := by simp [List.getD, List.getElem?_eq_getElem hb]
    rw [e]
    exact cons_erase l _ hb
/-- With places that rise along the list, what is chosen is the least of all: so the order is sorted, ties by place. -/
theorem order_sorted (hw : Weak l1) (p : α → Int) : ∀ n (l : List α), l.length = n → l.Pairwise (fun a b => p a < p b) → Sorted (lex l1 (fun a b => decide (p a < p b))) (orderL l1 d n l)
  | 0, _, _, _ => List.Pairwise.nil
  | n + 1, l, h, hp => by
    obtain ⟨hb, hs, hf⟩ := chosen_spec (d := d) hw l (by omega)
    rw [orderL]
    generalize chosen l1 d l = b at hb hs hf
    refine List.Pairwise.cons (fun x hx => ?_) (order_sorted hw p n _ (by rw [List.length_eraseIdx_of_lt hb]; omega) (hp.sublist (List.eraseIdx_sublist l b)))
    have hx2 : x ∈ l.eraseIdx b := (order_perm (d := d) hw n _ (by rw [List.length_eraseIdx_of_lt hb]; omega)).mem_iff.1 hx
    obtain ⟨j, hj, hjb, rfl⟩ := List.mem_eraseIdx_iff_getElem.1 hx2
    have eb : l.getD b d = l[b] := by simp [List.getD, List.getElem?_eq_getElem hb]
    have ej : l.getD j d = l[j] := by simp [List.getD, List.getElem?_eq_getElem hj]
    have h1 := hs j hj
    rw [lex_false, ← ej]
    refine ⟨h1, ?_⟩
    by_cases q : j < b
    · exact Or.inl (hf j q)
    · have hlt : b < j := by omega
      have := List.pairwise_iff_getElem.1 hp b j hb hj hlt
      refine Or.inr ?_
      rw [ej, eb]
      simp; omega
theorem row_getD (l : List α) (d : α) : row (fun i => l.getD i d) l.length = l := by
  apply List.ext_getElem
  · simp [row]
  · intro i h1 h2
    simp [row, List.getD, List.getElem?_eq_getElem h2]
theorem places_apart (l1 : α → α → Bool) (p : α → Int) (l : List α) (hp : l.Pairwise (fun a b => p a < p b)) : Apart (lex l1 (fun a b => decide (p a < p b))) l := by
  intro a ha b hb h1 h2
  rw [lex_false] at h1 h2
  have e1 : ¬ p a < p b := by
    rcases h1.2 with e | e
    · rw [h2.1] at e; cases e
    · simpa using e
  have e2 : ¬ p b < p a := by
    rcases h2.2 with e | e
    · rw [h1.1] at e; cases e
    · simpa using e
  obtain ⟨i, hi, rfl⟩ := List.getElem_of_mem ha
  obtain ⟨j, hj, rfl⟩ := List.getElem_of_mem hb
  rcases Nat.lt_trichotomy i j with q | q | q
  · exact absurd (List.pairwise_iff_getElem.1 hp i j hi hj q) e1
  · subst q; rfl
  · exact absurd (List.pairwise_iff_getElem.1 hp j i hj hi q) e2
/-- What the heap pops, one behind the other, is the document's order. -/
theorem pops_order (hw : Weak l1) (p : α → Int) (l : List α) (hp : l.Pairwise (fun a b => p a < p b)) :
    pops (lex l1 (fun a b => decide (p a < p b))) l.length (initF (lex l1 (fun a b => decide (p a < p b))) l.length (l.length / 2) (fun i => l.getD i d)) = orderL l1 d l.length l := by
  have hl : Weak (lex l1 (fun a b => decide (p a < p b))) := lex_weak hw (weak_of _ weak_ilt p)
  have h1 : (pops (lex l1 (fun a b => decide (p a < p b))) l.length (initF (lex l1 (fun a b => decide (p a < p b))) l.length (l.length / 2) (fun i => l.getD i d))).Perm l := by
    refine (pops_row _ _).trans ((init_row _ _ _).trans ?_)
    rw [row_getD]
  have h2 := order_perm (d := d) hw l.length l rfl
  refine sorted_one _ _ (h1.trans h2.symm) (pops_sorted hl _ _ (init_all hl _ _)) (order_sorted hw p _ l rfl hp) ?_
  exact fun a ha b hb => places_apart l1 p l hp a (h1.mem_iff.1 ha) b (h1.mem_iff.1 hb)
end
end Go.Proofs.Ythnbkhggbfnpcaa.Ev
