/- Two rising rows, laid into each other: by the two-finger walk and by putting one after the other. No conditions beside those stated. -/
namespace Go.Proofs.YtpflenjhmeaeoaaGreatDoor.DiffM
abbrev Key := List UInt8
theorem kt {a b c : Key} (h : a < b) (g : b < c) : a < c := List.lt_trans h g
theorem ki (a : Key) : ¬ a < a := List.lt_irrefl a
theorem ke {a b : Key} (h : ¬ a < b) (g : ¬ b < a) : a = b := List.le_antisymm (List.not_lt.1 g) (List.not_lt.1 h)
section
variable {α E : Type} (key : α → Key) (ek : E → Key) (mk : Int → α → E) (same : α → α → Bool)
def mrg : List α → List α → List E
  | [], [] => []
  | x :: xs, [] => mk 2 x :: mrg xs []
  | [], y :: ys => mk 0 y :: mrg [] ys
  | x :: xs, y :: ys =>
    if key x < key y then mk 2 x :: mrg xs (y :: ys)
    else if key y < key x then mk 0 y :: mrg (x :: xs) ys
    else if same x y then mrg xs ys else mk 1 y :: mrg xs ys
termination_by a b => a.length + b.length
def put (l : List E) (e : E) : List E := l.takeWhile (fun x => decide (ek x < ek e)) ++ e :: l.dropWhile (fun x => decide (ek x < ek e))
def fnd (a : List α) (f : Key) : Option α := a.find? (fun x => decide (key x = f))
def g1 (a : List α) (p : α) : Option E := match fnd key a (key p) with | none => some (mk 0 p) | some q => if same q p then none else some (mk 1 p)
def g2 (b : List α) (q : α) : Option E := match fnd key b (key q) with | none => some (mk 2 q) | some _ => none
def zJ (a b : List α) : List E := (a.filterMap (g2 key mk b)).foldl (put ek) ((b.filterMap (g1 key mk same a)).foldl (put ek) [])
abbrev Up (l : List α) : Prop := l.Pairwise (fun x y => key x < key y)
theorem qL (l : List E) (e x : E) : x ∈ put ek l e ↔ x = e ∨ x ∈ l := by
  have h := List.takeWhile_append_dropWhile (p := fun x => decide (ek x < ek e)) (l := l)
  have : x ∈ l ↔ x ∈ l.takeWhile (fun x => decide (ek x < ek e)) ∨ x ∈ l.dropWhile (fun x => decide (ek x < ek e)) := by
    rw [← List.mem_append, h]
  rw [put, List.mem_append, List.mem_cons, this]
  constructor
  · rintro (h | h | h)
    · exact .inr (.inl h)
    · exact .inl h
    · exact .inr (.inr h)
  · rintro (h | h | h)
    · exact .inr (.inl h)
    · exact .inl h
    · exact .inr (.inr h)
theorem wM : ∀ (l : List E) (e : E), Up ek l → (∀ x ∈ l, ek x ≠ ek e) → Up ek (put ek l e)
  | [], e, _, _ => by simp [put]
  | x :: l, e, h, hn => by
    obtain ⟨h1, h2⟩ := List.pairwise_cons.1 h
    by_cases hx : ek x < ek e
    · have he : put ek (x :: l) e = x :: put ek l e := by simp [put, hx]
      rw [he]
      refine List.pairwise_cons.2 ⟨fun y hy => ?_, wM l e h2 (fun y hy => hn y (List.mem_cons_of_mem _ hy))⟩
      rcases (qL ek l e y).1 hy with rfl | hy
      · exact hx
      · exact h1 y hy
    · have he : put ek (x :: l) e = e :: x :: l := by simp [put, hx]
      rw [he]
      have hx' : ek e < ek x := Decidable.by_contra fun q => hn x (by simp) (ke hx q)
      refine List.pairwise_cons.2 ⟨fun y hy => ?_, h⟩
      rcases List.mem_cons.1 hy with rfl | hy
      · exact hx'
      · exact kt hx' (h1 y hy)
theorem oN : ∀ (l o : List E), Up ek o → (l.map ek).Nodup → (∀ x ∈ o, ∀ y ∈ l, ek x ≠ ek y) → Up ek (l.foldl (put ek) o) ∧ ∀ x, x ∈ l.foldl (put ek) o ↔ x ∈ o ∨ x ∈ l
  | [], o, h, _, _ => ⟨h, fun x => by simp⟩
  | e :: l, o, h, hd, hn => by
    obtain ⟨d1, d2⟩ := List.nodup_cons.1 hd
    have := oN l (put ek o e) (wM ek o e h (fun x hx => hn x hx e (by simp))) d2 (fun x hx y hy => by
      rcases (qL ek o e x).1 hx with rfl | hx
      · exact fun q => d1 (List.mem_map.2 ⟨y, hy, q.symm⟩)
      · exact hn x hx y (List.mem_cons_of_mem _ hy))
    refine ⟨this.1, fun x => (this.2 x).trans ?_⟩
    rw [qL, List.mem_cons]
    constructor
    · rintro ((h | h) | h)
      · exact .inr (.inl h)
      · exact .inl h
      · exact .inr (.inr h)
    · rintro (h | h | h)
      · exact .inl (.inr h)
      · exact .inl (.inl h)
      · exact .inr h
theorem wN : ∀ (l m : List E), Up ek l → Up ek m → (∀ x, x ∈ l ↔ x ∈ m) → l = m
  | [], [], _, _, _ => rfl
  | [], y :: m, _, _, h => absurd ((h y).2 (by simp)) (by simp)
  | x :: l, [], _, _, h => absurd ((h x).1 (by simp)) (by simp)
  | x :: l, y :: m, hl, hm, h => by
    obtain ⟨a1, a2⟩ := List.pairwise_cons.1 hl
    obtain ⟨b1, b2⟩ := List.pairwise_cons.1 hm
    have e : x = y := by
      rcases List.mem_cons.1 ((h x).1 (by simp)) with e | e
      · exact e
      · rcases List.mem_cons.1 ((h y).2 (by simp)) with e' | e'
        · exact e'.symm
        · exact absurd (kt (a1 y e') (b1 x e)) (ki _)
    subst e
    refine congrArg (x :: ·) (wN l m a2 b2 fun z => ⟨fun hz => ?_, fun hz => ?_⟩)
    · rcases List.mem_cons.1 ((h z).1 (List.mem_cons_of_mem _ hz)) with e | e
      · subst e; exact absurd (a1 z hz) (ki _)
      · exact e
    · rcases List.mem_cons.1 ((h z).2 (List.mem_cons_of_mem _ hz)) with e | e
      · subst e; exact absurd (b1 z hz) (ki _)
      · exact e
theorem jW {x : α} {xs : List α} {f : Key} (h : key x ≠ f) : fnd key (x :: xs) f = fnd key xs f := by
  simp [fnd, h]
theorem jX {x : α} {xs : List α} {f : Key} (h : key x = f) : fnd key (x :: xs) f = some x := by
  simp [fnd, h]
theorem rO {xs : List α} {f : Key} (h : ∀ x ∈ xs, key x ≠ f) : fnd key xs f = none := by
  simp only [fnd, List.find?_eq_none, decide_eq_true_eq]; exact h
theorem oO {β : Type} {f g : α → Option β} : ∀ (l : List α), (∀ x ∈ l, f x = g x) → l.filterMap f = l.filterMap g
  | [], _ => rfl
  | x :: l, h => by
    rw [List.filterMap_cons, List.filterMap_cons, h x (by simp), oO l (fun y hy => h y (List.mem_cons_of_mem _ hy))]
theorem tQ {x : α} {xs l : List α} (h : ∀ y ∈ l, key x ≠ key y) : l.filterMap (g1 key mk same (x :: xs)) = l.filterMap (g1 key mk same xs) :=
  oO l fun y hy => by rw [g1, g1, jW key (h y hy)]
theorem tT {x : α} {xs l : List α} (h : ∀ y ∈ l, key x ≠ key y) : l.filterMap (g2 key mk (x :: xs)) = l.filterMap (g2 key mk xs) :=
  oO l fun y hy => by rw [g2, g2, jW key (h y hy)]
theorem kG : ∀ (n : Nat) (a b : List α), a.length + b.length ≤ n → Up key a → Up key b → ∀ e, e ∈ mrg key mk same a b ↔ e ∈ b.filterMap (g1 key mk same a) ∨ e ∈ a.filterMap (g2 key mk b)
  | 0, a, b, hn, _, _, e => by
    obtain rfl : a = [] := List.eq_nil_of_length_eq_zero (by omega)
    obtain rfl : b = [] := List.eq_nil_of_length_eq_zero (by omega)
    simp [mrg]
  | n + 1, [], [], _, _, _, e => by simp [mrg]
  | n + 1, x :: xs, [], hn, ha, hb, e => by
    have ih := kG n xs [] (by simp at hn ⊢; omega) (List.pairwise_cons.1 ha).2 hb e
    have hg : g2 key mk ([] : List α) x = some (mk 2 x) := by simp [g2, fnd]
    rw [mrg, List.mem_cons, ih, List.filterMap_cons, hg, List.mem_cons]
    simp only [List.filterMap_nil, List.not_mem_nil, false_or]
  | n + 1, [], y :: ys, hn, ha, hb, e => by
    have ih := kG n [] ys (by simp at hn ⊢; omega) ha (List.pairwise_cons.1 hb).2 e
    have hg : g1 key mk same ([] : List α) y = some (mk 0 y) := by simp [g1, fnd]
    rw [mrg, List.mem_cons, ih, List.filterMap_cons, hg, List.mem_cons]
    simp only [List.filterMap_nil, List.not_mem_nil, or_false]
  | n + 1, x :: xs, y :: ys, hn, ha, hb, e => by
    obtain ⟨a1, a2⟩ := List.pairwise_cons.1 ha
    obtain ⟨b1, b2⟩ := List.pairwise_cons.1 hb
    rw [mrg]
    by_cases h1 : key x < key y
    · have ih := kG n xs (y :: ys) (by simp at hn ⊢; omega) a2 hb e
      have hx : ∀ z ∈ y :: ys, key x ≠ key z := fun z hz q => by
        rcases List.mem_cons.1 hz with rfl | hz
        · exact ki _ (q ▸ h1)
        · exact ki _ (q ▸ kt h1 (b1 z hz))
      have hg : g2 key mk (y :: ys) x = some (mk 2 x) := by rw [g2, rO key (fun z hz q => hx z hz q.symm)]
      rw [if_pos h1, List.mem_cons, ih, tQ key mk same hx, List.filterMap_cons (l := xs), hg, List.mem_cons]
      constructor
      · rintro (h | h | h)
        · exact .inr (.inl h)
        · exact .inl h
        · exact .inr (.inr h)
      · rintro (h | h | h)
        · exact .inr (.inl h)
        · exact .inl h
        · exact .inr (.inr h)
    · rw [if_neg h1]
      by_cases h2 : key y < key x
      · have ih := kG n (x :: xs) ys (by simp at hn ⊢; omega) ha b2 e
        have hy : ∀ z ∈ x :: xs, key y ≠ key z := fun z hz q => by
          rcases List.mem_cons.1 hz with rfl | hz
          · exact ki _ (q ▸ h2)
          · exact ki _ (q ▸ kt h2 (a1 z hz))
        have hg : g1 key mk same (x :: xs) y = some (mk 0 y) := by rw [g1, rO key (fun z hz q => hy z hz q.symm)]
        rw [if_pos h2, List.mem_cons, ih, tT key mk hy, List.filterMap_cons (l := ys), hg, List.mem_cons]
        exact or_assoc.symm
      · rw [if_neg h2]
        have he : key x = key y := ke h1 h2
        have ih := kG n xs ys (by simp at hn ⊢; omega) a2 b2 e
        have hx : ∀ z ∈ ys, key x ≠ key z := fun z hz q => ki _ (q ▸ he ▸ b1 z hz)
        have hy : ∀ z ∈ xs, key y ≠ key z := fun z hz q => ki _ (q ▸ he ▸ a1 z hz)
        have hg2 : g2 key mk (y :: ys) x = none := by rw [g2, jX key he.symm]
        have hg1 : g1 key mk same (x :: xs) y = if same x y then none else some (mk 1 y) := by rw [g1, jX key he]
        rw [List.filterMap_cons, hg1, tQ key mk same hx, List.filterMap_cons, hg2, tT key mk hy]
        by_cases hs : same x y = true
        · rw [if_pos hs, if_pos hs]; exact ih
        · rw [if_neg hs, if_neg hs, List.mem_cons, List.mem_cons, ih]
          exact or_assoc.symm
variable (hek : ∀ i x, ek (mk i x) = key x)
include hek
theorem sP {a : List α} {p : α} {e : E} (h : g1 key mk same a p = some e) : ek e = key p := by
  unfold g1 at h
  split at h
  · obtain rfl := Option.some.inj h; exact hek _ _
  · split at h
    · cases h
    · obtain rfl := Option.some.inj h; exact hek _ _
theorem sQ {a : List α} {p : α} {e : E} (h : g2 key mk a p = some e) : ek e = key p ∧ ∀ q ∈ a, key q ≠ key p := by
  unfold g2 at h
  split at h
  · rename_i hf
    obtain rfl := Option.some.inj h
    refine ⟨hek _ _, ?_⟩
    simpa [fnd, List.find?_eq_none] using hf
  · cases h
omit hek in
theorem oP {g : α → Option E} (hg : ∀ p e, g p = some e → ek e = key p) : ∀ (l : List α), Up key l → ((l.filterMap g).map ek).Nodup
  | [], _ => by simp
  | x :: l, h => by
    obtain ⟨h1, h2⟩ := List.pairwise_cons.1 h
    have ih := oP hg l h2
    rw [List.filterMap_cons]
    cases hx : g x with
    | none => exact ih
    | some e =>
      rw [List.map_cons, List.nodup_cons]
      refine ⟨fun hm => ?_, ih⟩
      obtain ⟨e', he', q⟩ := List.mem_map.1 hm
      obtain ⟨z, hz, hz'⟩ := List.mem_filterMap.1 he'
      rw [hg x e hx, hg z e' hz'] at q
      exact ki _ (q ▸ h1 z hz)
theorem zK : ∀ (n : Nat) (a b : List α), a.length + b.length ≤ n → Up key a → Up key b → Up ek (mrg key mk same a b) := by
  have kk : ∀ (a b : List α), Up key a → Up key b → ∀ e ∈ mrg key mk same a b, ∃ z, (z ∈ a ∨ z ∈ b) ∧ ek e = key z := fun a b ha hb e he => by
    rcases (kG key mk same _ a b (Nat.le_refl _) ha hb e).1 he with h | h
    · obtain ⟨z, hz, hz'⟩ := List.mem_filterMap.1 h
      exact ⟨z, .inr hz, sP key ek mk same hek hz'⟩
    · obtain ⟨z, hz, hz'⟩ := List.mem_filterMap.1 h
      exact ⟨z, .inl hz, (sQ key ek mk hek hz').1⟩
  intro n
  induction n with
  | zero =>
    intro a b hn _ _
    obtain rfl : a = [] := List.eq_nil_of_length_eq_zero (by omega)
    obtain rfl : b = [] := List.eq_nil_of_length_eq_zero (by omega)
    simp [mrg]
  | succ n ih =>
    intro a b hn ha hb
    cases a with
    | nil =>
      cases b with
      | nil => simp [mrg]
      | cons y ys =>
        obtain ⟨b1, b2⟩ := List.pairwise_cons.1 hb
        rw [mrg]
        refine List.pairwise_cons.2 ⟨fun e he => ?_, ih [] ys (by simp at hn ⊢; omega) ha b2⟩
        obtain ⟨z, hz, q⟩ := kk [] ys ha b2 e he
        rw [hek, q]
        rcases hz with hz | hz
        · cases hz
        · exact b1 z hz
    | cons x xs =>
      obtain ⟨a1, a2⟩ := List.pairwise_cons.1 ha
      cases b with
      | nil =>
        rw [mrg]
        refine List.pairwise_cons.2 ⟨fun e he => ?_, ih xs [] (by simp at hn ⊢; omega) a2 hb⟩
        obtain ⟨z, hz, q⟩ := kk xs [] a2 hb e he
        rw [hek, q]
        rcases hz with hz | hz
        · exact a1 z hz
        · cases hz
      | cons y ys =>
        obtain ⟨b1, b2⟩ := List.pairwise_cons.1 hb
        rw [mrg]
        by_cases h1 : key x < key y
        · rw [if_pos h1]
          refine List.pairwise_cons.2 ⟨fun e he => ?_, ih xs (y :: ys) (by simp at hn ⊢; omega) a2 hb⟩
          obtain ⟨z, hz, q⟩ := kk xs (y :: ys) a2 hb e he
          rw [hek, q]
          rcases hz with hz | hz
          · exact a1 z hz
          · rcases List.mem_cons.1 hz with rfl | hz
            · exact h1
            · exact kt h1 (b1 z hz)
        · rw [if_neg h1]
          by_cases h2 : key y < key x
          · rw [if_pos h2]
            refine List.pairwise_cons.2 ⟨fun e he => ?_, ih (x :: xs) ys (by simp at hn ⊢; omega) ha b2⟩
            obtain ⟨z, hz, q⟩ := kk (x :: xs) ys ha b2 e he
            rw [hek, q]
            rcases hz with hz | hz
            · rcases List.mem_cons.1 hz with rfl | hz
              · exact h2
              · exact kt h2 (a1 z hz)
            · exact b1 z hz
          · rw [if_neg h2]
            have ihr := ih xs ys (by simp at hn ⊢; omega) a2 b2
            split
            · exact ihr
            · refine List.pairwise_cons.2 ⟨fun e he => ?_, ihr⟩
              obtain ⟨z, hz, q⟩ := kk xs ys a2 b2 e he
              rw [hek, q]
              rcases hz with hz | hz
              · exact ke h1 h2 ▸ a1 z hz
              · exact b1 z hz
theorem wO (a b : List α) (ha : Up key a) (hb : Up key b) : mrg key mk same a b = zJ key ek mk same a b := by
  have d1 := oP key ek (g := g1 key mk same a) (fun p e h => sP key ek mk same hek h) b hb
  have d2 := oP key ek (g := g2 key mk b) (fun p e h => (sQ key ek mk hek h).1) a ha
  obtain ⟨u1, m1⟩ := oN ek (b.filterMap (g1 key mk same a)) [] List.Pairwise.nil d1 (by simp)
  obtain ⟨u2, m2⟩ := oN ek (a.filterMap (g2 key mk b)) ((b.filterMap (g1 key mk same a)).foldl (put ek) []) u1 d2 (fun x hx y hy q => by
    rcases (m1 x).1 hx with h | h
    · cases h
    · obtain ⟨z, hz, hz'⟩ := List.mem_filterMap.1 h
      obtain ⟨v, hv, hv'⟩ := List.mem_filterMap.1 hy
      obtain ⟨k1, k2⟩ := sQ key ek mk hek hv'
      exact k2 z hz (by rw [← k1, ← q, sP key ek mk same hek hz']))
  refine wN ek _ _ (zK key ek mk same hek _ a b (Nat.le_refl _) ha hb) u2 fun x => ?_
  rw [kG key mk same _ a b (Nat.le_refl _) ha hb x, zJ, m2, m1]
  simp
end
end Go.Proofs.YtpflenjhmeaeoaaGreatDoor.DiffM
