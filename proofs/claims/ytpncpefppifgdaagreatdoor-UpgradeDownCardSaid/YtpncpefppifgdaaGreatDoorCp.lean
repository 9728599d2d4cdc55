/- The steps of a region in shorter words: what each step asks is shown by default. No conditions beside those stated. -/
import Derived.Test.YtpncpefppifgdaaGreatDoorGUtx0
namespace Go.Proofs.YtpncpefppifgdaaGreatDoor.GUt
open Go.RowKit Go.Proofs.YtpncpefppifgdaaGreatDoorW.PrintWords Go.Proofs.YtpncpefppifgdaaGreatDoorW.PrintLast Go.Proofs.YtpncpefppifgdaaGreatDoorW.PrintMore
abbrev I : Bool := true
abbrev O : Bool := false
section
variable {P : Program} {ops : Array Oper} {Q : Exit → Act → World → Prop} {md : Region.Mode} {S : World → Prop} {ds : List Nat} {T : Bool × List (List Nat × List Nat)} {B : List Nat}
  {oi : Oper} {v : Value} {fuel : Nat} {l : Array Bool} {a a' : Act} {w : World}
theorem pu_ (i N : Nat) (l' : Array Bool) (hT : gT md ops = T) (h : bY P md ops Q S ds fuel l' a' w)
    (hi : ops[i]? = some oi := by rfl) (hN : oi.dst = some N := by rfl) (hc : xg T l.toList l'.toList i = true := by kernel_rfl)
    (hQ : ∀ c a w, Q (.panic c) (a.put oi.dst v) w → Q (.panic c) a w := by exact fun _ _ _ h => h) (hw : Region.wanted oi (yielded ops a.tmps) = true := by rfl)
    (hy : ∀ w, (execOp a.eval oi).run P w = .ok (.value v) w := by intro w'; go_simp; with_reducible rfl)
    (ha : a.put (some N) v = a' := by simp only [Act.put, List.setIfInBounds_toArray, List.set_cons_zero, List.set_cons_succ, bO, bR]; rfl) :
    bY P md ops Q S ds (fuel + 1) l a w := jf l' hi hN (iC hT hc) hQ (Or.inl ⟨hw, hy⟩) ha h
theorem pz_ (i N : Nat) (l' : Array Bool) (hT : gT md ops = T) (h : bY P md ops Q S ds fuel l' a' w)
    (hi : ops[i]? = some oi := by rfl) (hN : oi.dst = some N := by rfl) (hc : xg T l.toList l'.toList i = true := by kernel_rfl)
    (hQ : ∀ c a w, Q (.panic c) (a.put oi.dst undef) w → Q (.panic c) a w := by exact fun _ _ _ h => h) (hw : Region.wanted oi (yielded ops a.tmps) = false := by rfl)
    (ha : a.put (some N) undef = a' := by simp only [Act.put, List.setIfInBounds_toArray, List.set_cons_zero, List.set_cons_succ, bO, bR]; rfl) :
    bY P md ops Q S ds (fuel + 1) l a w := jf l' hi hN (iC hT hc) hQ (Or.inr ⟨hw, rfl⟩) ha h
theorem ta_ (i N : Nat) (l' : Array Bool) (hT : gT md ops = T) (hB : fO T.2 B = true) (hS : S w) (h : bY P md ops Q S ds fuel l' a' w)
    (hi : ops[i]? = some oi := by rfl) (hN : oi.dst = some N := by rfl) (hc : uY T B ds l.toList l'.toList i = true := by kernel_rfl)
    (hQ : ∀ c a w, Q (.panic c) (a.put oi.dst v) w → Q (.panic c) a w := by exact fun _ _ _ h => h) (hw : Region.wanted oi (yielded ops a.tmps) = true := by rfl)
    (hy : ∀ w, S w → (execOp a.eval oi).run P w = .ok (.value v) w := by intro w' s; (try dsimp only at s); go_simp; with_reducible rfl)
    (ha : a.put (some N) v = a' := by simp only [Act.put, List.setIfInBounds_toArray, List.set_cons_zero, List.set_cons_succ, bO, bR]; rfl) :
    bY P md ops Q S ds (fuel + 1) l a w := gy l' hi hN (dR hT hB hc) hQ (Or.inl ⟨hw, hy⟩) hS ha h
end
theorem hb_ {p : Prop} (h : p := by repeat (first | (with_reducible first | exact HB.out | apply dG | apply bB | apply bL | refine eu ?_ (Aside0.out (by assumption))) | exact HB.out)) : p := h
theorem bk_ {p q : Prop} (h : q) (k : q → p := by intro h; (with_reducible repeat (first | apply aj | apply ay | apply ak)); exact h) : p := k h
theorem kr_ {p q : Prop} (h : q) (k : q → p := by intro h; (with_reducible repeat (first | apply Kd.kC | apply Kd.kD | apply Kd.l7)); exact h) : p := k h
theorem kv_ {p q : Prop} (h : q) (k : q → p := by intro h; (with_reducible repeat (first | apply Kd.gJ | apply Kd.gK | apply Kd.gH)); exact h) : p := k h
end Go.Proofs.YtpncpefppifgdaaGreatDoor.GUt
