/- The steps of a region in shorter words: what each step asks is shown by default. No conditions beside those stated. -/
import Derived.Test.YthnbkhggbfnpcaaEvWalk1
import Derived.Test.YthnbkhggbfnpcaaGEvx0
namespace Go.Proofs.Ythnbkhggbfnpcaa.Ev
open Go.RowKit Go.Proofs.YthnbkhggbfnpcaaW.PrintWords Go.Proofs.YthnbkhggbfnpcaaW.PrintLast Go.Proofs.YthnbkhggbfnpcaaW.PrintMore
set_option linter.unusedVariables false
set_option linter.unusedSimpArgs false
abbrev I : Bool := true
abbrev O : Bool := false
section
variable {P : Program} {ops : Array Oper} {Q : Exit → Act → World → Prop} {md : Region.Mode} {S : World → Prop} {ds : List Nat} {T : Bool × List (List Nat × List Nat)} {B : List Nat}
  {oi : Oper} {v : Value} {fuel : Nat} {l : Array Bool} {a a' : Act} {w : World}
theorem pu_ (i N : Nat) (l' : Array Bool) (hT : rtab md ops = T) (h : wpAnyLast P md ops Q S ds fuel l' a' w)
    (hi : ops[i]? = some oi := by rfl) (hN : oi.dst = some N := by rfl) (hc : anyT T l.toList l'.toList i = true := by kernel_rfl)
    (hQ : ∀ c a w, Q (.panic c) (a.put oi.dst v) w → Q (.panic c) a w := by exact fun _ _ _ h => h) (hw : Region.wanted oi (yielded ops a.tmps) = true := by rfl)
    (hy : ∀ w, (execOp a.eval oi).run P w = .ok (.value v) w := by intro w'; go_simp; with_reducible rfl)
    (ha : a.put (some N) v = a' := by simp only [Act.put, List.setIfInBounds_toArray, List.set_cons_zero, List.set_cons_succ, i64_w, i32_w]; rfl) :
    wpAnyLast P md ops Q S ds (fuel + 1) l a w := pure_ l' hi hN (any_of hT hc) hQ (Or.inl ⟨hw, hy⟩) ha h
theorem pz_ (i N : Nat) (l' : Array Bool) (hT : rtab md ops = T) (h : wpAnyLast P md ops Q S ds fuel l' a' w)
    (hi : ops[i]? = some oi := by rfl) (hN : oi.dst = some N := by rfl) (hc : anyT T l.toList l'.toList i = true := by kernel_rfl)
    (hQ : ∀ c a w, Q (.panic c) (a.put oi.dst undef) w → Q (.panic c) a w := by exact fun _ _ _ h => h) (hw : Region.wanted oi (yielded ops a.tmps) = false := by rfl)
    (ha : a.put (some N) undef = a' := by simp only [Act.put, List.setIfInBounds_toArray, List.set_cons_zero, List.set_cons_succ, i64_w, i32_w]; rfl) :
    wpAnyLast P md ops Q S ds (fuel + 1) l a w := pure_ l' hi hN (any_of hT hc) hQ (Or.inr ⟨hw, rfl⟩) ha h
theorem ta_ (i N : Nat) (l' : Array Bool) (hT : rtab md ops = T) (hB : waitsOk T.2 B = true) (hS : S w) (h : wpAnyLast P md ops Q S ds fuel l' a' w)
    (hi : ops[i]? = some oi := by rfl) (hN : oi.dst = some N := by rfl) (hc : takeW T B ds l.toList l'.toList i = true := by kernel_rfl)
    (hQ : ∀ c a w, Q (.panic c) (a.put oi.dst v) w → Q (.panic c) a w := by exact fun _ _ _ h => h) (hw : Region.wanted oi (yielded ops a.tmps) = true := by rfl)
    (hy : ∀ w, S w → (execOp a.eval oi).run P w = .ok (.value v) w := by intro w' s; (try dsimp only at s); go_simp; with_reducible rfl)
    (ha : a.put (some N) v = a' := by simp only [Act.put, List.setIfInBounds_toArray, List.set_cons_zero, List.set_cons_succ, i64_w, i32_w]; rfl) :
    wpAnyLast P md ops Q S ds (fuel + 1) l a w := take_ l' hi hN (take_ofW hT hB hc) hQ (Or.inl ⟨hw, hy⟩) hS ha h
/-- All operations that may come up now, one by one. -/
theorem rd_ (rs : List Nat) (hT : rtab md ops = T) (hc : (readyT T.2 l.toList == rs) = true) (h : AllReadyL P md ops Q S ds fuel l a w rs) (hne : rs ≠ [] := by decide) :
    wpAnyLast P md ops Q S ds (fuel + 1) l a w := by
  subst hT
  exact wpAnyLast_ready (by rw [ready_eq]; exact eq_of_beq hc) hne h
theorem ac_ (i N : Nat) {rs : List Nat} (h : ∀ K : Act → World → Prop, Shut (∀ a' w', S w' → (S w' → wpAnyLast P md ops Q S ds fuel (l.setIfInBounds i true) a' w') → K a' w') → if Region.wanted oi (yielded ops a.tmps) = true then Oper.wp P oi a w K Q else K (a.put (some N) undef) w)
    (hs : AllReadyL P md ops Q S ds fuel l a w rs) (hi : ops[i]? = some oi := by rfl) (hN : oi.dst = some N := by rfl) (hd : i ∉ ds := by decide) : AllReadyL P md ops Q S ds fuel l a w (i :: rs) :=
  AllReadyL.cons hi hd (by rw [hN]; exact h) hs
theorem ln_ (l' : Array Bool) (hl : (l == l') = true) (h : wpAnyLast P md ops Q S ds fuel l' a w) : wpAnyLast P md ops Q S ds fuel l a w := by
  rw [eq_of_beq hl]; exact h
theorem nm_ (N : Nat) (h : wpAnyLast P md ops Q S ds fuel l a' w) (ha : a.put (some N) v = a' := by simp only [Act.put, List.setIfInBounds_toArray, List.set_cons_zero, List.set_cons_succ, i64_w, i32_w]; rfl) :
    wpAnyLast P md ops Q S ds fuel l (a.put (some N) v) w := by
  rw [ha]; exact h
end
theorem hb_ {p : Prop} (h : p := by repeat (first | (with_reducible first | exact HB.out | apply below_alloc | apply pw_below_drewN | apply below_drew1 | refine below_set ?_ (Aside0.out (by assumption))) | exact HB.out)) : p := h
theorem bk_ {p q : Prop} (h : q) (k : q → p := by intro h; (with_reducible repeat (first | apply blk_drewN | apply blk_drew | apply blk_alloc)); exact h) : p := k h
theorem kr_ {p q : Prop} (h : q) (k : q → p := by intro h; (with_reducible repeat (first | apply Kd.R_alloc | apply Kd.R_drewN | apply Kd.R_drew)); exact h) : p := k h
theorem kv_ {p q : Prop} (h : q) (k : q → p := by intro h; (with_reducible repeat (first | apply Kd.V_alloc | apply Kd.V_drewN | apply Kd.V_drew)); exact h) : p := k h
end Go.Proofs.Ythnbkhggbfnpcaa.Ev
