/- The steps of a region in shorter words: what each step asks is shown by default. No conditions beside those stated. -/
import Derived.Test.YtpflenjhmeaeoaaDoorGUtx0
namespace Go.Proofs.YtpflenjhmeaeoaaDoor.GUt
open Go.RowKit Go.Proofs.YtpflenjhmeaeoaaDoorW.PrintWords Go.Proofs.YtpflenjhmeaeoaaDoorW.PrintLast Go.Proofs.YtpflenjhmeaeoaaDoorW.PrintMore
abbrev I : Bool := true
abbrev O : Bool := false
section
variable {P : Program} {ops : Array Oper} {Q : Exit → Act → World → Prop} {md : Region.Mode} {S : World → Prop} {ds : List Nat} {T : Bool × List (List Nat × List Nat)} {B : List Nat}
  {oi : Oper} {v : Value} {fuel : Nat} {l : Array Bool} {a a' : Act} {w : World}
theorem pu_ (i N : Nat) (l' : Array Bool) (hT : gM md ops = T) (h : bV P md ops Q S ds fuel l' a' w)
    (hi : ops[i]? = some oi := by rfl) (hN : oi.dst = some N := by rfl) (hc : wI T l.toList l'.toList i = true := by kernel_rfl)
    (hQ : ∀ c a w, Q (.panic c) (a.put oi.dst v) w → Q (.panic c) a w := by exact fun _ _ _ h => h) (hw : Region.wanted oi (yielded ops a.tmps) = true := by rfl)
    (hy : ∀ w, (execOp a.eval oi).run P w = .ok (.value v) w := by intro w'; go_simp; with_reducible rfl)
    (ha : a.put (some N) v = a' := by simp only [Act.put, List.setIfInBounds_toArray, List.set_cons_zero, List.set_cons_succ, bH, bI]; rfl) :
    bV P md ops Q S ds (fuel + 1) l a w := eD l' hi hN (eU hT hc) hQ (Or.inl ⟨hw, hy⟩) ha h
theorem pz_ (i N : Nat) (l' : Array Bool) (hT : gM md ops = T) (h : bV P md ops Q S ds fuel l' a' w)
    (hi : ops[i]? = some oi := by rfl) (hN : oi.dst = some N := by rfl) (hc : wI T l.toList l'.toList i = true := by kernel_rfl)
    (hQ : ∀ c a w, Q (.panic c) (a.put oi.dst undef) w → Q (.panic c) a w := by exact fun _ _ _ h => h) (hw : Region.wanted oi (yielded ops a.tmps) = false := by rfl)
    (ha : a.put (some N) undef = a' := by simp only [Act.put, List.setIfInBounds_toArray, List.set_cons_zero, List.set_cons_succ, bH, bI]; rfl) :
    bV P md ops Q S ds (fuel + 1) l a w := eD l' hi hN (eU hT hc) hQ (Or.inr ⟨hw, rfl⟩) ha h
theorem ta_ (i N : Nat) (l' : Array Bool) (hT : gM md ops = T) (hB : eY T.2 B = true) (hS : S w) (h : bV P md ops Q S ds fuel l' a' w)
    (hi : ops[i]? = some oi := by rfl) (hN : oi.dst = some N := by rfl) (hc : uO T B ds l.toList l'.toList i = true := by kernel_rfl)
    (hQ : ∀ c a w, Q (.panic c) (a.put oi.dst v) w → Q (.panic c) a w := by exact fun _ _ _ h => h) (hw : Region.wanted oi (yielded ops a.tmps) = true := by rfl)
    (hy : ∀ w, S w → (execOp a.eval oi).run P w = .ok (.value v) w := by intro w' s; (try dsimp only at s); go_simp; with_reducible rfl)
    (ha : a.put (some N) v = a' := by simp only [Act.put, List.setIfInBounds_toArray, List.set_cons_zero, List.set_cons_succ, bH, bI]; rfl) :
    bV P md ops Q S ds (fuel + 1) l a w := iy l' hi hN (fq hT hB hc) hQ (Or.inl ⟨hw, hy⟩) hS ha h
theorem rd_ (rs : List Nat) (hT : gM md ops = T) (hc : (lD T.2 l.toList == rs) = true) (h : eO P md ops Q S ds fuel l a w rs) (hne : rs ≠ [] := by decide) :
    bV P md ops Q S ds (fuel + 1) l a w := by
  subst hT
  exact iR (by rw [ready_eq]; exact eq_of_beq hc) hne h
theorem ac_ (i N : Nat) {rs : List Nat} (h : ∀ K : Act → World → Prop, Shut (∀ a' w', S w' → (S w' → bV P md ops Q S ds fuel (l.setIfInBounds i true) a' w') → K a' w') → if Region.wanted oi (yielded ops a.tmps) = true then Oper.wp P oi a w K Q else K (a.put (some N) undef) w)
    (hs : eO P md ops Q S ds fuel l a w rs) (hi : ops[i]? = some oi := by rfl) (hN : oi.dst = some N := by rfl) (hd : i ∉ ds := by decide) : eO P md ops Q S ds fuel l a w (i :: rs) :=
  eO.cons hi hd (by rw [hN]; exact h) hs
theorem ln_ (l' : Array Bool) (hl : (l == l') = true) (h : bV P md ops Q S ds fuel l' a w) : bV P md ops Q S ds fuel l a w := by
  rw [eq_of_beq hl]; exact h
theorem nm_ (N : Nat) (h : bV P md ops Q S ds fuel l a' w) (ha : a.put (some N) v = a' := by simp only [Act.put, List.setIfInBounds_toArray, List.set_cons_zero, List.set_cons_succ, bH, bI]; rfl) :
    bV P md ops Q S ds fuel l (a.put (some N) v) w := by
  rw [ha]; exact h
end
theorem hb_ {p : Prop} (h : p := by repeat (first | (with_reducible first | exact HB.out | apply bG | apply aT | apply aZ | refine gq ?_ (Aside0.out (by assumption))) | exact HB.out)) : p := h
theorem bk_ {p q : Prop} (h : q) (k : q → p := by intro h; (with_reducible repeat (first | apply aC | apply aG | apply aH)); exact h) : p := k h
theorem kr_ {p q : Prop} (h : q) (k : q → p := by intro h; (with_reducible repeat (first | apply Kd.fA | apply Kd.fB | apply Kd.d9)); exact h) : p := k h
theorem kv_ {p q : Prop} (h : q) (k : q → p := by intro h; (with_reducible repeat (first | apply Kd.bP | apply Kd.bQ | apply Kd.bA)); exact h) : p := k h
end Go.Proofs.YtpflenjhmeaeoaaDoor.GUt
