/- The steps of a region in shorter words: what each step asks is shown by default. No conditions beside those stated. -/
import Derived.Test.YtpncpefppifgdaaGreatDoorGUtx0
namespace Go.Proofs.YtpncpefppifgdaaGreatDoor.GUt
open Go.RowKit Go.Proofs.YtpncpefppifgdaaGreatDoorW.PrintWords Go.Proofs.YtpncpefppifgdaaGreatDoorW.PrintLast Go.Proofs.YtpncpefppifgdaaGreatDoorW.PrintMore
abbrev I : Bool := true
abbrev O : Bool := false
section
variable {P : Program} {ops : Array Oper} {Q : Exit → Act → World → Prop} {md : Region.Mode} {S : World → Prop} {ds : List Nat} {T : Bool × List (List Nat × List Nat)} {B : List Nat}
  {oi : Oper} {v : Value} {fuel : Nat} {l : Array Bool} {a a' : Act} {w : World}
theorem pu_ (i N : Nat) (l' : Array Bool) (hT : gX md ops = T) (h : bZ P md ops Q S ds fuel l' a' w)
    (hi : ops[i]? = some oi := by rfl) (hN : oi.dst = some N := by rfl) (hc : xw T l.toList l'.toList i = true := by kernel_rfl)
    (hQ : ∀ c a w, Q (.panic c) (a.put oi.dst v) w → Q (.panic c) a w := by exact fun _ _ _ h => h) (hw : Region.wanted oi (yielded ops a.tmps) = true := by rfl)
    (hy : ∀ w, (execOp a.eval oi).run P w = .ok (.value v) w := by intro w'; go_simp; with_reducible rfl)
    (ha : a.put (some N) v = a' := by simp only [Act.put, List.setIfInBounds_toArray, List.set_cons_zero, List.set_cons_succ, bJ, bK]; rfl) :
    bZ P md ops Q S ds (fuel + 1) l a w := eX l' hi hN (dV hT hc) hQ (Or.inl ⟨hw, hy⟩) ha h
theorem pz_ (i N : Nat) (l' : Array Bool) (hT : gX md ops = T) (h : bZ P md ops Q S ds fuel l' a' w)
    (hi : ops[i]? = some oi := by rfl) (hN : oi.dst = some N := by rfl) (hc : xw T l.toList l'.toList i = true := by kernel_rfl)
    (hQ : ∀ c a w, Q (.panic c) (a.put oi.dst undef) w → Q (.panic c) a w := by exact fun _ _ _ h => h) (hw : Region.wanted oi (yielded ops a.tmps) = false := by rfl)
    (ha : a.put (some N) undef = a' := by simp only [Act.put, List.setIfInBounds_toArray, List.set_cons_zero, List.set_cons_succ, bJ, bK]; rfl) :
    bZ P md ops Q S ds (fuel + 1) l a w := eX l' hi hN (dV hT hc) hQ (Or.inr ⟨hw, rfl⟩) ha h
theorem ta_ (i N : Nat) (l' : Array Bool) (hT : gX md ops = T) (hB : fU T.2 B = true) (hS : S w) (h : bZ P md ops Q S ds fuel l' a' w)
    (hi : ops[i]? = some oi := by rfl) (hN : oi.dst = some N := by rfl) (hc : vE T B ds l.toList l'.toList i = true := by kernel_rfl)
    (hQ : ∀ c a w, Q (.panic c) (a.put oi.dst v) w → Q (.panic c) a w := by exact fun _ _ _ h => h) (hw : Region.wanted oi (yielded ops a.tmps) = true := by rfl)
    (hy : ∀ w, S w → (execOp a.eval oi).run P w = .ok (.value v) w := by intro w' s; (try dsimp only at s); go_simp; with_reducible rfl)
    (ha : a.put (some N) v = a' := by simp only [Act.put, List.setIfInBounds_toArray, List.set_cons_zero, List.set_cons_succ, bJ, bK]; rfl) :
    bZ P md ops Q S ds (fuel + 1) l a w := gG l' hi hN (d9 hT hB hc) hQ (Or.inl ⟨hw, hy⟩) hS ha h
theorem rd_ (rs : List Nat) (hT : gX md ops = T) (hc : (lU T.2 l.toList == rs) = true) (h : fq P md ops Q S ds fuel l a w rs) (hne : rs ≠ [] := by decide) :
    bZ P md ops Q S ds (fuel + 1) l a w := by
  subst hT
  exact iV (by rw [ready_eq]; exact eq_of_beq hc) hne h
theorem ac_ (i N : Nat) {rs : List Nat} (h : ∀ K : Act → World → Prop, Shut (∀ a' w', S w' → (S w' → bZ P md ops Q S ds fuel (l.setIfInBounds i true) a' w') → K a' w') → if Region.wanted oi (yielded ops a.tmps) = true then Oper.wp P oi a w K Q else K (a.put (some N) undef) w)
    (hs : fq P md ops Q S ds fuel l a w rs) (hi : ops[i]? = some oi := by rfl) (hN : oi.dst = some N := by rfl) (hd : i ∉ ds := by decide) : fq P md ops Q S ds fuel l a w (i :: rs) :=
  fq.cons hi hd (by rw [hN]; exact h) hs
theorem ln_ (l' : Array Bool) (hl : (l == l') = true) (h : bZ P md ops Q S ds fuel l' a w) : bZ P md ops Q S ds fuel l a w := by
  rw [eq_of_beq hl]; exact h
theorem nm_ (N : Nat) (h : bZ P md ops Q S ds fuel l a' w) (ha : a.put (some N) v = a' := by simp only [Act.put, List.setIfInBounds_toArray, List.set_cons_zero, List.set_cons_succ, bJ, bK]; rfl) :
    bZ P md ops Q S ds fuel l (a.put (some N) v) w := by
  rw [ha]; exact h
end
theorem hb_ {p : Prop} (h : p := by repeat (first | (with_reducible first | exact HB.out | apply bW | apply aV | apply bF | refine fG ?_ (Aside0.out (by assumption))) | exact HB.out)) : p := h
theorem bk_ {p q : Prop} (h : q) (k : q → p := by intro h; (with_reducible repeat (first | apply aj | apply av | apply ak)); exact h) : p := k h
theorem kr_ {p q : Prop} (h : q) (k : q → p := by intro h; (with_reducible repeat (first | apply Kd.ig | apply Kd.iq | apply Kd.iG)); exact h) : p := k h
theorem kv_ {p q : Prop} (h : q) (k : q → p := by intro h; (with_reducible repeat (first | apply Kd.iM | apply Kd.iN | apply Kd.jm)); exact h) : p := k h
end Go.Proofs.YtpncpefppifgdaaGreatDoor.GUt
