/- evict.take: what stands while it runs. No conditions beside those stated. -/
import Derived.Test.YthnbkhggbfnpcaaEvMore
namespace Go.Proofs.Ythnbkhggbfnpcaa.Ev
open Go.RowKit Go.Proofs.YthnbkhggbfnpcaaW.PrintWords Go.Proofs.YthnbkhggbfnpcaaW.PrintLast Go.Proofs.YthnbkhggbfnpcaaW.PrintMore Go.Proofs.Ythnbkhggbfnpcaa.GEv
set_option linter.unusedVariables false
set_option linter.unusedSimpArgs false
/-- The row of items behind g, the texts that are out, and what the closure holds (below b1). -/
structure TS (w0 : World) (b1 : Nat) (I : World → Prop) (W : World) (g : Nat) (v : Value) (xs : List S55) (vo : Value) (out : List ByteArray) : Prop where
  hs : HS w0 W g v xs
  gb : b1 ≤ g
  vb : ∀ k, v.ownBlock = some k → b1 ≤ k
  out : Kd.R Kd.string 9 W w0.heap.size (fun k => b1 ≤ k ∧ k ≠ g ∧ some k ≠ v.ownBlock) vo out
  cl : I W
  bW : b1 ≤ W.heap.size
def Stab (b1 : Nat) (I : World → Prop) : Prop := ∀ W W' : World, I W → (∀ k, k < b1 → W'.heap[k]? = W.heap[k]?) → I W'
section
variable {w0 W W1 : World} {b1 g : Nat} {I I' : World → Prop} {v v1 vo vo1 : Value} {xs ys : List S55} {out out1 : List ByteArray}
theorem TS.below (hI : Stab b1 I) (h : TS w0 b1 I W g v xs vo out) (hb : Below W.heap.size W W1) : TS w0 b1 I W1 g v xs vo out :=
  ⟨h.hs.below hb, h.gb, h.vb, Kd.R_below h.out hb, hI _ _ h.cl (fun k hk => hb.block k (Nat.lt_of_lt_of_le hk h.bW)), Nat.le_trans h.bW hb.size⟩
theorem TS.moved (hI : Stab b1 I) (h : TS w0 b1 I W g v xs vo out) (hs : HS w0 W1 g v1 ys) (hv : v1.ownBlock = v.ownBlock) (hk : Kept W W1 (fun k => k = g ∨ some k = v.ownBlock)) : TS w0 b1 I W1 g v1 ys vo out :=
  ⟨hs, h.gb, by rw [hv]; exact h.vb, by rw [hv]; exact Kd.R_step h.out (fun k ho hlt => hk.2 k hlt (fun q => q.elim ho.2.1 ho.2.2)), hI _ _ h.cl (fun k hlt => hk.2 k (Nat.lt_of_lt_of_le hlt h.bW) (fun q => q.elim (fun e => by have := h.gb; omega) (fun e => by have := h.vb k e.symm; omega))), Nat.le_trans h.bW hk.1⟩
theorem TS.more (h : TS w0 b1 I W g v xs vo out) (hk : ∀ k, b1 ≤ k → k < W.heap.size → W1.heap[k]? = W.heap[k]?) (hsz : W.heap.size ≤ W1.heap.size) (hl : Lifts w0.heap.size W W1) (hI' : I' W1) : TS w0 b1 I' W1 g v xs vo out :=
  ⟨⟨(hk g h.gb (blk_lt h.hs.box)).trans h.hs.box, h.hs.ge, h.hs.ne, Kd.R_step h.hs.row (fun k ho hlt => hk k (h.vb k ho.symm) hlt), hl w0 h.hs.bel (Nat.le_refl _)⟩, h.gb, h.vb, Kd.R_step h.out (fun k ho hlt => hk k ho.1 hlt), hI', Nat.le_trans h.bW hsz⟩
theorem TS.fresh (h : TS w0 b1 I W g v xs vo out) : ∀ k, W.heap.size ≤ k → b1 ≤ k ∧ k ≠ g ∧ some k ≠ v.ownBlock := fun k hk =>
  ⟨Nat.le_trans h.bW hk, fun e => by have := blk_lt h.hs.box; omega, fun e => by have := Kd.R_lt h.hs.row k e.symm; omega⟩
theorem TS.outed (hI : Stab b1 I) (h : TS w0 b1 I W g v xs vo out) (ho : Kd.R Kd.string 9 W1 w0.heap.size (fun k => b1 ≤ k ∧ k ≠ g ∧ some k ≠ v.ownBlock) vo1 out1) (hb : Below w0.heap.size w0 W1) (hg : W.grownBy W1 vo.ownBlock) : TS w0 b1 I W1 g v xs vo1 out1 :=
  ⟨⟨blk_grown h.hs.box hg (fun e => (h.out.1 g e.symm).2.1 rfl), h.hs.ge, h.hs.ne, Kd.R_grown h.hs.row hg (fun k ho e => (h.out.1 k e.symm).2.2 ho), hb⟩, h.gb, h.vb, ho, hI _ _ h.cl (fun k hlt => hg.block k (Nat.lt_of_lt_of_le hlt h.bW) (fun e => by have := (h.out.1 k e.symm).1; omega)), Nat.le_trans h.bW hg.size⟩
theorem TS.pushed {ok : Nat → Prop} (hI : Stab b1 I) (h : TS w0 b1 I W g v xs (.slice none 0 0) []) (ho : Kd.R k55 55 W1 w0.heap.size ok v1 ys) (hb : Below w0.heap.size w0 W1) (hg : W.grownBy W1 v.ownBlock) (hat : v1.ownBlock = v.ownBlock ∨ ∃ b, v1.ownBlock = some b ∧ W.heap.size ≤ b) :
    TS w0 b1 I (W1.setCell ⟨g, 0, none⟩ v1) g v1 ys (.slice none 0 0) [] := by
  have hlt := blk_lt h.hs.box
  have hbox := blk_grown h.hs.box hg (fun e => h.hs.ne e.symm)
  have hne : v1.ownBlock ≠ some g := by
    rcases hat with e | ⟨b, e, hb⟩
    · rw [e]; exact h.hs.ne
    · rw [e]; intro q; injection q with q; omega
  have hvb : ∀ k, v1.ownBlock = some k → b1 ≤ k := by
    intro k hk
    rcases hat with e | ⟨b, e, hb⟩
    · exact h.vb k (by rw [← e]; exact hk)
    · rw [e] at hk; injection hk with hk; have := h.bW; omega
  refine ⟨⟨blk_put hbox 0 v1 rfl, h.hs.ge, hne, Kd.R_far (R_any ho) (fun k hk e => hne (by rw [← hk, e])) v1, below_set hb h.hs.ge⟩, h.gb, hvb, Kd.R_nil _ _ _ _ _, hI _ _ h.cl (fun k hk => ?_), ?_⟩
  · have := h.gb
    exact (Below.heap_setCell _ _ _ k (by show k ≠ g; omega)).trans (hg.block k (Nat.lt_of_lt_of_le hk h.bW) (fun e => by have := h.vb k e.symm; omega))
  · have := hg.size; have := h.bW; simp; omega
end
/-- What take puts out, as long as more are wanted. -/
def takeL {σ : Type} (step : σ → S27 → Bool × σ) : Nat → (Nat → S55) → σ → List ByteArray
  | 0, _, _ => []
  | n + 1, f, s => (popF lessI n f n).f0.f0 :: (if (step s (popF lessI n f n).f0).1 = true then takeL step n (popF lessI n f) (step s (popF lessI n f n).f0).2 else [])
def itemF (l : List S27) (i : Nat) : S55 := ⟨l.getD i z27, i⟩
end Go.Proofs.Ythnbkhggbfnpcaa.Ev
