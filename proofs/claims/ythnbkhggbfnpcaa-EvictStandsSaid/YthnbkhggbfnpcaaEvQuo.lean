/- A quotient within a region; scores as data. No conditions beside those stated. -/
import Derived.Test.YthnbkhggbfnpcaaEvCp
namespace Go.Proofs.Ythnbkhggbfnpcaa.Ev
open Go.RowKit Go.Proofs.YthnbkhggbfnpcaaW.PrintWords Go.Proofs.YthnbkhggbfnpcaaW.PrintLast Go.Proofs.YthnbkhggbfnpcaaW.PrintMore
set_option linter.unusedVariables false
set_option linter.unusedSimpArgs false
theorem run_quo (P : Program) (w : World) (t : TypeId) (u v : Nat) : ∃ q w', (binOp .quo t (.float .f64 u) (.float .f64 v)).run P w = .ok (.float .f64 q) w' ∧ Quo u v q ∧ Drawn0 w w' := by
  cases hq : F64.div u v with
  | some q => exact ⟨q, w, run_quo_some hq, Or.inl hq, Drawn0.refl w⟩
  | none =>
    obtain ⟨q, hn, h⟩ := run_quo_none (P := P) (w := w) (t := t) hq
    exact ⟨q, w.drew, h, Or.inr ⟨hq, hn⟩, ⟨⟨1, rfl⟩⟩⟩
section
variable {P : Program} {ops : Array Oper} {Q : Exit → Act → World → Prop}
theorem quo_ {oi : Oper} {N : Option Tmp} {a : Act} {w : World} {K : Act → World → Prop} {t t1 : TypeId} {x y : Operand} (u v : Nat) (hw : Region.wanted oi (yielded ops a.tmps) = true) (hN : oi.dst = N) (hop : oi.op = .binOp .quo t x y t1) (hx : a.eval x = .float .f64 u) (hy : a.eval y = .float .f64 v)
    (h : ∀ q w', Quo u v q → Drawn0 w w' → K (a.put N (.float .f64 q)) w') : if Region.wanted oi (yielded ops a.tmps) = true then Oper.wp P oi a w K Q else K (a.put N undef) w := by
  obtain ⟨q, w', hr, hq, hd⟩ := run_quo P w t u v
  refine value_ hw hN ?_ (h q w' hq hd)
  unfold execOp
  simp only [hop, hx, hy]
  simp [eqGuard, hr]
end
/-- The same number, or both none. -/
def AlikeD (d e : Ieee.Datum) : Prop := d = e ∨ (nanD d = true ∧ nanD e = true)
def scoreD (u a : Nat) : Ieee.Datum := match F64.div u a with | some q => F64.read q | none => .nan false 0
theorem quo_alike {u a q : Nat} (h : Quo u a q) : AlikeD (F64.read q) (scoreD u a) := by
  unfold scoreD
  rcases h with h | ⟨h, hn⟩
  · rw [h]; exact Or.inl rfl
  · rw [h]; exact Or.inr ⟨hn, rfl⟩
theorem AlikeD.nan {d e : Ieee.Datum} (h : AlikeD d e) : nanD d = nanD e := by rcases h with rfl | ⟨h1, h2⟩ <;> simp_all
theorem order_nan {d e : Ieee.Datum} (h : nanD d = true ∨ nanD e = true) : d.order e = none := by
  cases d <;> cases e <;> simp_all [nanD, Ieee.Datum.order]
theorem AlikeD.order {d d' e e' : Ieee.Datum} (h : AlikeD d d') (k : AlikeD e e') : d.order e = d'.order e' := by
  rcases h with rfl | ⟨h1, h2⟩
  · rcases k with rfl | ⟨k1, k2⟩
    · rfl
    · rw [order_nan (Or.inr k1), order_nan (Or.inr k2)]
  · rw [order_nan (Or.inl h1), order_nan (Or.inl h2)]
theorem AlikeD.ahead {d d' e e' : Ieee.Datum} (h : AlikeD d d') (k : AlikeD e e') (fl : List UInt8 → List UInt8 → Bool) (fa fb : List UInt8) : aheadD fl d e fa fb = aheadD fl d' e' fa fb := by
  unfold aheadD
  rw [h.nan, k.nan, h.order k]
/-- Ahead's answer, of a load's three parts and another's. -/
def aheadB (fa : ByteArray) (ua aa : Nat) (fb : ByteArray) (ub ab : Nat) : Bool := aheadD Op.bytesLess (scoreD ua aa) (scoreD ub ab) fa.toList fb.toList
def gtF (x y : Nat) : Bool := F64.order x y == some .gt
def ltF (x y : Nat) : Bool := F64.order x y == some .lt
def leF (x y : Nat) : Bool := F64.order x y == some .lt || F64.order x y == some .eq
def neF (x y : Nat) : Bool := F64.order x y != some .eq
@[go_sem] theorem gtr_float (t : TypeId) (x y : Nat) : binOp .gtr t (.float .f64 x) (.float .f64 y) = pure (.bool (gtF x y)) := rfl
@[go_sem] theorem lss_float (t : TypeId) (x y : Nat) : binOp .lss t (.float .f64 x) (.float .f64 y) = pure (.bool (ltF x y)) := rfl
@[go_sem] theorem leq_float (t : TypeId) (x y : Nat) : binOp .leq t (.float .f64 x) (.float .f64 y) = pure (.bool (leF x y)) := rfl
@[go_sem] theorem neq_float (t : TypeId) (x y : Nat) : binOp .neq t (.float .f64 x) (.float .f64 y) = pure (.bool (neF x y)) := rfl
theorem neF_self (x : Nat) : neF x x = nanD (F64.read x) := order_self x
theorem gtF_nan {x y : Nat} (h : nanD (F64.read x) = true) : gtF x y = false := by
  unfold gtF
  rw [show F64.order x y = none from order_nan (Or.inl h)]; rfl
theorem ltF_nan {x y : Nat} (h : nanD (F64.read x) = true) : ltF x y = false := by
  unfold ltF
  rw [show F64.order x y = none from order_nan (Or.inl h)]; rfl
/-- Ahead's answer out of the quotients that were made. -/
theorem ahead_of {fa fb : ByteArray} {ua aa ub ab q1 q2 : Nat} (h1 : Quo ua aa q1) (h2 : Quo ub ab q2) : aheadB fa ua aa fb ub ab =
    (if (nanD (F64.read q1) != nanD (F64.read q2)) = true then nanD (F64.read q2) else if gtF q1 q2 = true then true else if ltF q1 q2 = true then false else Op.bytesLess fa.toList fb.toList) := by
  unfold aheadB
  rw [← (quo_alike h1).ahead (quo_alike h2)]
  unfold aheadD gtF ltF
  have e : F64.order q1 q2 = (F64.read q1).order (F64.read q2) := rfl
  rw [e]
  by_cases c1 : nanD (F64.read q1) = true <;> by_cases c2 : nanD (F64.read q2) = true <;> simp [c1, c2]
end Go.Proofs.Ythnbkhggbfnpcaa.Ev
