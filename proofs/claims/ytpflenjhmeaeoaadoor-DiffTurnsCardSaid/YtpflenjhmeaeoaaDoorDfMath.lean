/- Two rising rows, laid into each other: by the two-finger walk and by putting one after the other. No conditions beside those stated. -/
namespace Go.Proofs.YtpflenjhmeaeoaaDoor.DiffM
abbrev Key := List UInt8
theorem kt {a b c : Key} (h : a < b) (g : b < c) : a < c := List.lt_trans h g
theorem ki (a : Key) : ¬ a < a := List.lt_irrefl a
theorem ke {a b : Key} (h : ¬ a < b) (g : ¬ b < a) : a = b := List.le_antisymm (List.not_lt.1 g) (List.not_lt.1 h)
section
variable {α E : Type} (key : α → Key) (ek : E → Key) (mk : Int → α → E) (same : α → α → Bool)
def mrg : List α → List α → List E
  | [], [] => []
  | x :: xs, [] => mk 2 x :: mrg xs []
  | [], y :: ys => mk 0 y :: mrg [] ys
  | x :: xs, y :: ys =>
    if key x < key y then mk 2 x :: mrg xs (y :: ys)
    else if key y < key x then mk 0 y :: mrg (x :: xs) ys
    else if same x y then mrg xs ys else mk 1 y :: mrg xs ys
termination_by a b => a.length + b.length
def put (l : List E) (e : E) : List E := l.takeWhile (fun x => decide (ek x < ek e)) ++ e :: l.dropWhile (fun x => decide (ek x < ek e))
def fnd (a : List α) (f : Key) : Option α := a.find? (fun x => decide (key x = f))
def g1 (a : List α) (p : α) : Option E := match fnd key a (key p) with | none => some (mk 0 p) | some q => if same q p then none else some (mk 1 p)
def g2 (b : List α) (q : α) : Option E := match fnd key b (key q) with | none => some (mk 2 q) | some _ => none
abbrev Up (l : List α) : Prop := l.Pairwise (fun x y => key x < key y)
variable (hek : ∀ i x, ek (mk i x) = key x)
include hek
omit hek in
theorem wm (a : List α) (h : ∀ x ∈ a, same x x = true) : mrg key mk same a a = [] := by
  induction a with
  | nil => simp [mrg]
  | cons x xs ih =>
    rw [mrg, if_neg (ki _), if_neg (ki _), if_pos (h x (by simp))]
    exact ih fun y hy => h y (List.mem_cons_of_mem _ hy)
def pO (R : E → E → Prop) : List E → List E → Prop
  | [], [] => True
  | x :: xs, y :: ys => R x y ∧ pO R xs ys
  | _, _ => False
omit hek in
theorem pQ {R : E → E → Prop} : ∀ {l m : List E}, pO R l m → l.length = m.length
  | [], [], _ => rfl
  | x :: xs, y :: ys, h => by simp [pQ h.2]
omit hek in
theorem qV {R : E → E → Prop} : ∀ {l m : List E} (_ : pO R l m) (i : Nat) (h1 : i < l.length) (h2 : i < m.length), R l[i] m[i]
  | x :: xs, y :: ys, h, 0, _, _ => h.1
  | x :: xs, y :: ys, h, i + 1, h1, h2 => qV h.2 i (by simpa using h1) (by simpa using h2)
theorem wo (kd : E → Int) (hkd : ∀ i x, kd (mk i x) = i) (hs : ∀ x y, same x y = same y x) : ∀ (n : Nat) (a b : List α), a.length + b.length ≤ n → pO (fun e e' => ek e = ek e' ∧ kd e + kd e' = 2) (mrg key mk same a b) (mrg key mk same b a) := by
  intro n
  induction n with
  | zero =>
    intro a b hn
    obtain rfl : a = [] := List.eq_nil_of_length_eq_zero (by omega)
    obtain rfl : b = [] := List.eq_nil_of_length_eq_zero (by omega)
    simp [mrg, pO]
  | succ n ih =>
    intro a b hn
    cases a with
    | nil =>
      cases b with
      | nil => simp [mrg, pO]
      | cons y ys =>
        rw [mrg, mrg]
        exact ⟨⟨by rw [hek, hek], by rw [hkd, hkd]; rfl⟩, ih [] ys (by simp at hn ⊢; omega)⟩
    | cons x xs =>
      cases b with
      | nil =>
        rw [mrg, mrg]
        exact ⟨⟨by rw [hek, hek], by rw [hkd, hkd]; rfl⟩, ih xs [] (by simp at hn ⊢; omega)⟩
      | cons y ys =>
        rw [mrg, mrg]
        by_cases h1 : key x < key y
        · have h2 : ¬ key y < key x := fun q => ki _ (kt h1 q)
          rw [if_pos h1, if_neg h2, if_pos h1]
          exact ⟨⟨by rw [hek, hek], by rw [hkd, hkd]; rfl⟩, ih xs (y :: ys) (by simp at hn ⊢; omega)⟩
        · by_cases h2 : key y < key x
          · rw [if_neg h1, if_pos h2, if_pos h2]
            exact ⟨⟨by rw [hek, hek], by rw [hkd, hkd]; rfl⟩, ih (x :: xs) ys (by simp at hn ⊢; omega)⟩
          · rw [if_neg h1, if_neg h2, if_neg h2, if_neg h1, hs y x]
            have ihr := ih xs ys (by simp at hn ⊢; omega)
            split
            · exact ihr
            · exact ⟨⟨by rw [hek, hek, ke h1 h2], by rw [hkd, hkd]; rfl⟩, ihr⟩
omit hek in
theorem sQ : ∀ (a b : List α), mrg key mk same a b = [] ↔ a.length = b.length ∧ ∀ i, (h1 : i < a.length) → (h2 : i < b.length) → key a[i] = key b[i] ∧ same a[i] b[i] = true
  | [], [] => by simp [mrg]
  | [], y :: ys => by simp [mrg]
  | x :: xs, [] => by simp [mrg]
  | x :: xs, y :: ys => by
    have ih := sQ xs ys
    rw [mrg]
    constructor
    · intro h
      by_cases h1 : key x < key y
      · rw [if_pos h1] at h; cases h
      · by_cases h2 : key y < key x
        · rw [if_neg h1, if_pos h2] at h; cases h
        · rw [if_neg h1, if_neg h2] at h
          by_cases h3 : same x y = true
          · rw [if_pos h3] at h
            obtain ⟨i1, i2⟩ := ih.1 h
            refine ⟨by simp [i1], fun i g1 g2 => ?_⟩
            cases i with
            | zero => exact ⟨ke h1 h2, h3⟩
            | succ i => exact i2 i (by simpa using g1) (by simpa using g2)
          · rw [if_neg h3] at h; cases h
    · rintro ⟨i1, i2⟩
      have h0 := i2 0 (by simp) (by simp)
      have he : key x = key y := h0.1
      have hs : same x y = true := h0.2
      rw [if_neg (he ▸ ki _), if_neg (he ▸ ki _), if_pos hs]
      exact ih.2 ⟨by simpa using i1, fun i g1 g2 => i2 (i + 1) (by simpa using g1) (by simpa using g2)⟩
end
end Go.Proofs.YtpflenjhmeaeoaaDoor.DiffM
