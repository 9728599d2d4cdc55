/- Two states copied and two boxes made for them, in whatever order (UpgradeMakes). No conditions beside those stated. -/
import Derived.Test.YtpncpefppifgdaaGreatDoorGUtx0
namespace Go.Proofs.YtpncpefppifgdaaGreatDoor.GUt
open Go.RowKit Go.Proofs.YtpncpefppifgdaaGreatDoorW.PrintWords Go.Proofs.YtpncpefppifgdaaGreatDoorW.PrintLast Go.Proofs.YtpncpefppifgdaaGreatDoorW.PrintMore
set_option linter.unusedVariables false
structure LC (w D W : World) (X Y : Option Nat) (fa fb : Option Value) (ta : List S85) (tb : List S88) : Prop where
  d : Below D.heap.size D W
  s : Below w.heap.size w W
  x : ∀ g, X = some g → D.heap.size ≤ g ∧ W.heap[g]? = some (.cells #[.int .u32 0, .slice none 0 0] 35 (0, 0))
  y : ∀ g, Y = some g → D.heap.size ≤ g ∧ W.heap[g]? = some (.cells #[.int .u64 0, .slice none 0 0] 39 (0, 0))
  n : ∀ g h, X = some g → Y = some h → g ≠ h
  a : ∀ v, fa = some v → Kd.R k85 85 W w.heap.size (fun _ => True) v ta
  b : ∀ v, fb = some v → Kd.S k88 88 W w.heap.size (fun _ => True) v tb
section
variable {w D W W1 : World} {X Y : Option Nat} {fa fb : Option Value} {ta : List S85} {tb : List S88}
theorem LC.start (h : Below w.heap.size w D) : LC w D D none none none none ta tb :=
  ⟨Below.refl _ _, h, (fun g e => by cases e), (fun g e => by cases e), (fun g k e => by cases e), (fun v e => by cases e), (fun v e => by cases e)⟩
theorem LC.Al (h : LC w D W X Y none fb ta tb) {v : Value} (hV : Kd.R k85 85 W1 W.heap.size (fun _ => True) v ta) (hb : Below W.heap.size W W1) : LC w D W1 X Y (some v) fb ta tb :=
  ⟨aN h.d hb, aN h.s hb, fun g e => ⟨(h.x g e).1, aI (h.x g e).2 hb⟩, fun g e => ⟨(h.y g e).1, aI (h.y g e).2 hb⟩, h.n, (fun u e => by cases e; exact Kd.jr hV h.s.size), fun u e => Kd.dK (h.b u e) hb⟩
theorem LC.Am (h : LC w D W X Y fa none ta tb) {v : Value} (hV : Kd.S k88 88 W1 W.heap.size (fun _ => True) v tb) (hb : Below W.heap.size W W1) : LC w D W1 X Y fa (some v) ta tb :=
  ⟨aN h.d hb, aN h.s hb, fun g e => ⟨(h.x g e).1, aI (h.x g e).2 hb⟩, fun g e => ⟨(h.y g e).1, aI (h.y g e).2 hb⟩, h.n, fun u e => Kd.eG (h.a u e) hb, (fun u e => by cases e; exact Kd.kF hV h.s.size)⟩
theorem LC.A9 (h : LC w D W none Y fa fb ta tb) {g : Nat} (hg : g = W.heap.size) (hbox : W1.heap[g]? = some (.cells #[.int .u32 0, .slice none 0 0] 35 (0, 0))) (hb : Below W.heap.size W W1) : LC w D W1 (some g) Y fa fb ta tb :=
  ⟨aN h.d hb, aN h.s hb, (fun k e => by cases e; exact ⟨by rw [hg]; exact h.d.size, hbox⟩), fun k e => ⟨(h.y k e).1, aI (h.y k e).2 hb⟩, (fun k m e e' => by cases e; have := bE (h.y m e').2; omega), fun u e => Kd.eG (h.a u e) hb, fun u e => Kd.dK (h.b u e) hb⟩
theorem LC.Bf (h : LC w D W X none fa fb ta tb) {g : Nat} (hg : g = W.heap.size) (hbox : W1.heap[g]? = some (.cells #[.int .u64 0, .slice none 0 0] 39 (0, 0))) (hb : Below W.heap.size W W1) : LC w D W1 X (some g) fa fb ta tb :=
  ⟨aN h.d hb, aN h.s hb, fun k e => ⟨(h.x k e).1, aI (h.x k e).2 hb⟩, (fun k e => by cases e; exact ⟨by rw [hg]; exact h.d.size, hbox⟩), (fun k m e e' => by cases e'; have := bE (h.x k e).2; omega), fun u e => Kd.eG (h.a u e) hb, fun u e => Kd.dK (h.b u e) hb⟩
theorem LC.six {gx gy g2 g3 : Nat} {va vb : Value} {c2 c3 : Array Value} (h : LC w D W (some gx) (some gy) (some va) (some vb) ta tb) (b2 : D.heap[g2]? = some (.cells c2 25 (0, 0))) (b3 : D.heap[g3]? = some (.cells c3 29 (0, 0))) (hD : Below w.heap.size w D) :
    (Kd.R k85 85 W w.heap.size (fun _ => True) va ta) ∧ (Kd.S k88 88 W w.heap.size (fun _ => True) vb tb) ∧ (W.heap[g2]? = some (.cells c2 25 (0, 0))) ∧ (W.heap[g3]? = some (.cells c3 29 (0, 0))) ∧ (W.heap[gx]? = some (.cells #[.int .u32 0, .slice none 0 0] 35 (0, 0))) ∧ (W.heap[gy]? = some (.cells #[.int .u64 0, .slice none 0 0] 39 (0, 0))) ∧
    (w.heap.size ≤ gx) ∧ (w.heap.size ≤ gx) ∧ (g2 ≠ gx) ∧ (gx ≠ g2) ∧ (g3 ≠ gx) ∧ (gx ≠ g3) ∧ (gy ≠ gx) ∧ (gx ≠ gy) ∧ (w.heap.size ≤ gy) ∧ (w.heap.size ≤ gy) ∧ (g2 ≠ gy) ∧ (gy ≠ g2) ∧ (g3 ≠ gy) ∧ (gy ≠ g3) ∧ (Below w.heap.size w W) := by
  have px := h.x gx rfl
  have py := h.y gy rfl
  have hn := h.n gx gy rfl rfl
  have hsz := hD.size
  have l2 := bE b2
  have l3 := bE b3
  exact ⟨h.a _ rfl, h.b _ rfl, aI b2 h.d, aI b3 h.d, px.2, py.2, by omega, by omega, by omega, by omega, by omega, by omega, hn.symm, hn, by omega, by omega, by omega, by omega, by omega, by omega, h.s⟩
end
end Go.Proofs.YtpncpefppifgdaaGreatDoor.GUt
