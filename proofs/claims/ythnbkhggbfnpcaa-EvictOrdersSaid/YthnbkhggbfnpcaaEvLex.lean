/- Orders, one behind the other. Plain, no program in sight. -/
import Derived.Test.YthnbkhggbfnpcaaEvHeap
import Derived.Test.YthnbkhggbfnpcaaEvFloat
namespace Go.Proofs.Ythnbkhggbfnpcaa.Ev
set_option linter.unusedVariables false
set_option linter.unusedSimpArgs false
section
variable {α β : Type}
/-- The first order, and where it says nothing the second. -/
def lex (l1 l2 : α → α → Bool) (a b : α) : Bool := l1 a b || (!l1 b a && l2 a b)
theorem lex_false {l1 l2 : α → α → Bool} {a b : α} : lex l1 l2 a b = false ↔ l1 a b = false ∧ (l1 b a = true ∨ l2 a b = false) := by
  unfold lex
  cases l1 a b <;> cases l1 b a <;> cases l2 a b <;> simp
theorem lex_weak {l1 l2 : α → α → Bool} (h1 : Weak l1) (h2 : Weak l2) : Weak (lex l1 l2) := by
  constructor
  · intro a b h
    rw [lex_false]
    unfold lex at h
    cases e : l1 a b with
    | true => exact ⟨h1.asym a b e, Or.inl rfl⟩
    | false =>
      rw [e, Bool.false_or, Bool.and_eq_true] at h
      have e2 : l1 b a = false := by simpa using h.1
      exact ⟨e2, Or.inr (h2.asym a b h.2)⟩
  · intro a b c hab hbc
    rw [lex_false] at hab hbc ⊢
    refine ⟨h1.neg a b c hab.1 hbc.1, ?_⟩
    cases e : l1 c a with
    | true => exact Or.inl rfl
    | false =>
      refine Or.inr ?_
      rcases hab.2 with h | h
      · have := h1.neg b c a hbc.1 e
        rw [h] at this; cases this
      · rcases hbc.2 with h' | h'
        · have := h1.neg c a b e hab.1
          rw [h'] at this; cases this
        · exact h2.neg a b c h h'
theorem weak_of (r : β → β → Bool) (hr : Weak r) (f : α → β) : Weak (fun a b => r (f a) (f b)) := ⟨fun a b h => hr.asym _ _ h, fun a b c h h' => hr.neg _ _ _ h h'⟩
theorem weak_int : Weak (fun a b : Int => decide (b < a)) := ⟨fun a b h => by simp at *; omega, fun a b c h h' => by simp at *; omega⟩
theorem weak_ilt : Weak (fun a b : Int => decide (a < b)) := ⟨fun a b h => by simp at *; omega, fun a b c h h' => by simp at *; omega⟩
theorem weak_nat : Weak (fun a b : Nat => decide (a < b)) := ⟨fun a b h => by simp at *; omega, fun a b c h h' => by simp at *; omega⟩
theorem weak_bool : Weak (fun a b : Bool => !a && b) := ⟨fun a b h => by cases a <;> cases b <;> simp_all, fun a b c h h' => by cases a <;> cases b <;> cases c <;> simp_all⟩
end
/-- A load as the order sees it: is its score none, the score's stand-in, its file, its place. -/
structure Rank where
  no : Bool
  key : Int
  file : List UInt8
  at_ : Nat
/-- A load goes ahead of another one: numbers ahead of none, greater ones first, then by file (of two that are none both keys are 0). -/
def aheadR (fl : List UInt8 → List UInt8 → Bool) : Rank → Rank → Bool := lex (fun a b => !a.no && b.no) (lex (fun a b => decide (b.key < a.key)) (fun a b => fl a.file b.file))
def lessR (fl : List UInt8 → List UInt8 → Bool) : Rank → Rank → Bool := lex (aheadR fl) (fun a b => decide (a.at_ < b.at_))
theorem aheadR_weak {fl : List UInt8 → List UInt8 → Bool} (hf : Weak fl) : Weak (aheadR fl) :=
  lex_weak (weak_of _ weak_bool Rank.no) (lex_weak (weak_of _ weak_int Rank.key) (weak_of _ hf Rank.file))
theorem lessR_weak {fl : List UInt8 → List UInt8 → Bool} (hf : Weak fl) : Weak (lessR fl) := lex_weak (aheadR_weak hf) (weak_of _ weak_nat Rank.at_)
/-- Ranks whose places differ are apart. -/
theorem lessR_apart {fl : List UInt8 → List UInt8 → Bool} (l : List Rank) (h : ∀ a ∈ l, ∀ b ∈ l, a.at_ = b.at_ → a = b) : Apart (lessR fl) l := by
  intro a ha b hb h1 h2
  rw [lessR, lex_false] at h1 h2
  refine h a ha b hb ?_
  have e1 : ¬ a.at_ < b.at_ := by
    rcases h1.2 with e | e
    · rw [h2.1] at e; cases e
    · simpa using e
  have e2 : ¬ b.at_ < a.at_ := by
    rcases h2.2 with e | e
    · rw [h1.1] at e; cases e
    · simpa using e
  omega
/-- What the program and the document ask of two scores and two files. -/
def aheadD (fl : List UInt8 → List UInt8 → Bool) (x y : Ieee.Datum) (fa fb : List UInt8) : Bool :=
  if nanD x = true ∧ nanD y = false ∨ nanD x = false ∧ nanD y = true then nanD y
  else if x.order y = some .gt then true else if x.order y = some .lt then false else fl fa fb
theorem aheadD_rank (fl : List UInt8 → List UInt8 → Bool) {B M : Int} (hM : 0 < M) (x y : Ieee.Datum) (fa fb : List UInt8) (i j : Nat) (hx : Within B M x) (hy : Within B M y) : aheadD fl x y fa fb = aheadR fl ⟨nanD x, keyD B M x, fa, i⟩ ⟨nanD y, keyD B M y, fb, j⟩ := by
  have ho := order_key hM x y hx hy
  have k0 : ∀ d : Ieee.Datum, nanD d = true → keyD B M d = 0 := fun d h => by cases d <;> simp_all [nanD, keyD]
  unfold aheadD aheadR lex
  cases ex : nanD x with
  | true =>
    cases ey : nanD y with
    | true =>
      rw [ex] at ho
      rw [if_pos (Or.inl rfl)] at ho
      simp [ho, k0 x ex, k0 y ey]
    | false => simp
  | false =>
    cases ey : nanD y with
    | true => simp
    | false =>
      rw [ex, ey, if_neg (by simp)] at ho
      rw [ho]
      by_cases h1 : keyD B M x < keyD B M y
      · simp [cmp_lt h1, h1, show ¬ keyD B M y < keyD B M x by omega]
      · by_cases h2 : keyD B M y < keyD B M x
        · simp [cmp_gt h2, h2]
        · have e : keyD B M x = keyD B M y := by omega
          simp [e, cmp_eq]
end Go.Proofs.Ythnbkhggbfnpcaa.Ev
