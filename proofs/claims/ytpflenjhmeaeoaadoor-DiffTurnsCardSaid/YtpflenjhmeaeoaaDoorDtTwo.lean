/- Two states copied and two boxes made for them, in whatever order. No conditions beside those stated. -/
import Derived.Test.YtpflenjhmeaeoaaDoorGUtx0
namespace Go.Proofs.YtpflenjhmeaeoaaDoor.GUt
open Go.RowKit Go.Proofs.YtpflenjhmeaeoaaDoorW.PrintWords Go.Proofs.YtpflenjhmeaeoaaDoorW.PrintLast Go.Proofs.YtpflenjhmeaeoaaDoorW.PrintMore
set_option linter.unusedVariables false
def okL (w D : World) (PR : List Nat) (k : Nat) : Prop := k < w.heap.size ∨ (D.heap.size ≤ k ∧ k ∉ PR)
structure LB (w D W : World) (PR : List Nat) (fa fb : Option Value) (ta tb : List S71) : Prop where
  d : Below D.heap.size D W
  s : Below w.heap.size w W
  p : ∀ g ∈ PR, D.heap.size ≤ g ∧ W.heap[g]? = some (.cells #[.int .u64 0, .slice none 0 0] 68 (0, 0))
  n : PR.Nodup
  a : ∀ v, fa = some v → Kd.V k71 71 W w.heap.size (okL w D PR) v ta
  b : ∀ v, fb = some v → Kd.V k71 71 W w.heap.size (okL w D PR) v tb
section
variable {w D W W1 : World} {PR : List Nat} {fa fb : Option Value} {ta tb : List S71}
theorem LB.start (h : Below w.heap.size w D) : LB w D D [] none none ta tb :=
  ⟨Below.refl _ _, h, fun g hg => absurd hg (by simp), by simp, (fun v e => by cases e), (fun v e => by cases e)⟩
theorem LB.new (h : LB w D W PR fa fb ta tb) {v : Value} {t : List S71} (hV : Kd.V k71 71 W1 W.heap.size (fun k => k < w.heap.size ∨ W.heap.size ≤ k) v t) : Kd.V k71 71 W1 w.heap.size (okL w D PR) v t :=
  Kd.sK (Kd.dO hV (fun k hk => hk.imp id (fun q => ⟨Nat.le_trans h.d.size q, fun m => absurd (dn (h.p k m).2) (Nat.not_lt.2 q)⟩))) h.s.size
theorem LB.zB (h : LB w D W PR none fb ta tb) {v : Value} (hV : Kd.V k71 71 W1 W.heap.size (fun k => k < w.heap.size ∨ W.heap.size ≤ k) v ta) (hb : Below W.heap.size W W1) : LB w D W1 PR (some v) fb ta tb :=
  ⟨aJ h.d hb, aJ h.s hb, fun g hg => ⟨(h.p g hg).1, aM (h.p g hg).2 hb⟩, h.n, (fun u e => by cases e; exact h.new hV), fun u e => Kd.dx (h.b u e) hb⟩
theorem LB.zC (h : LB w D W PR fa none ta tb) {v : Value} (hV : Kd.V k71 71 W1 W.heap.size (fun k => k < w.heap.size ∨ W.heap.size ≤ k) v tb) (hb : Below W.heap.size W W1) : LB w D W1 PR fa (some v) ta tb :=
  ⟨aJ h.d hb, aJ h.s hb, fun g hg => ⟨(h.p g hg).1, aM (h.p g hg).2 hb⟩, h.n, fun u e => Kd.dx (h.a u e) hb, (fun u e => by cases e; exact h.new hV)⟩
theorem LB.box (h : LB w D W PR fa fb ta tb) {g : Nat} (hg : g = W.heap.size) (hbox : W1.heap[g]? = some (.cells #[.int .u64 0, .slice none 0 0] 68 (0, 0))) (hb : Below W.heap.size W W1) : LB w D W1 (g :: PR) fa fb ta tb := by
  have hm : ∀ k, okL w D PR k ∧ k < W.heap.size → okL w D (g :: PR) k := fun k hk => hk.1.imp id (fun q => ⟨q.1, fun m => (List.mem_cons.1 m).elim (fun e => by have := hk.2; omega) q.2⟩)
  refine ⟨aJ h.d hb, aJ h.s hb, fun k hk => ?_, ?_, fun u e => Kd.dO (Kd.dx (Kd.sJ (h.a u e)) hb) hm, fun u e => Kd.dO (Kd.dx (Kd.sJ (h.b u e)) hb) hm⟩
  · rcases List.mem_cons.1 hk with rfl | hk
    · exact ⟨by rw [hg]; exact h.d.size, hbox⟩
    · exact ⟨(h.p k hk).1, aM (h.p k hk).2 hb⟩
  · exact List.nodup_cons.2 ⟨fun m => by have := dn (h.p g m).2; omega, h.n⟩
theorem LB.swap {gx gy : Nat} (h : LB w D W [gy, gx] fa fb ta tb) : LB w D W [gx, gy] fa fb ta tb := by
  have e : ∀ k, k ∈ [gx, gy] ↔ k ∈ [gy, gx] := fun k => by simp [or_comm]
  have hm : ∀ k, okL w D [gy, gx] k → okL w D [gx, gy] k := fun k hk => hk.imp id (fun q => ⟨q.1, fun m => q.2 ((e k).1 m)⟩)
  exact ⟨h.d, h.s, fun g hg => h.p g ((e g).1 hg), by have := h.n; simp at this ⊢; exact fun q => this q.symm, fun u q => Kd.dO (h.a u q) hm, fun u q => Kd.dO (h.b u q) hm⟩
theorem LB.six {gx gy g2 g3 : Nat} {va vb v5 v6 : Value} {l5 l6 : List S65} {P5 P6 : Nat → Prop} {c2 c3 : Array Value} (h : LB w D W [gx, gy] (some va) (some vb) ta tb) (h5 : Kd.R k65 65 D w.heap.size P5 v5 l5) (h6 : Kd.R k65 65 D w.heap.size P6 v6 l6)
    (b2 : D.heap[g2]? = some (.cells c2 59 (0, 0))) (b3 : D.heap[g3]? = some (.cells c3 59 (0, 0))) (e2 : w.heap.size ≤ g2) (e3 : w.heap.size ≤ g3) :
    (Kd.V k71 71 W w.heap.size (fun k_ => some k_ ≠ v5.ownBlock ∧ some k_ ≠ v6.ownBlock ∧ k_ ≠ g2 ∧ k_ ≠ g3 ∧ k_ ≠ gx ∧ k_ ≠ gy) va ta) ∧ (Kd.V k71 71 W w.heap.size (fun k_ => some k_ ≠ v5.ownBlock ∧ some k_ ≠ v6.ownBlock ∧ k_ ≠ g2 ∧ k_ ≠ g3 ∧ k_ ≠ gx ∧ k_ ≠ gy) vb tb) ∧
    (Kd.R k65 65 W w.heap.size P5 v5 l5) ∧ (Kd.R k65 65 W w.heap.size P6 v6 l6) ∧ (W.heap[g2]? = some (.cells c2 59 (0, 0))) ∧ (W.heap[g3]? = some (.cells c3 59 (0, 0))) ∧ (W.heap[gx]? = some (.cells #[.int .u64 0, .slice none 0 0] 68 (0, 0))) ∧ (W.heap[gy]? = some (.cells #[.int .u64 0, .slice none 0 0] 68 (0, 0))) ∧
    (w.heap.size ≤ gx) ∧ (w.heap.size ≤ gx) ∧ (g2 ≠ gx) ∧ (gx ≠ g2) ∧ (g3 ≠ gx) ∧ (gx ≠ g3) ∧ (gy ≠ gx) ∧ (gx ≠ gy) ∧ (w.heap.size ≤ gy) ∧ (w.heap.size ≤ gy) ∧ (g2 ≠ gy) ∧ (gy ≠ g2) ∧ (g3 ≠ gy) ∧ (gy ≠ g3) ∧ (Below w.heap.size w W) := by
  have px := h.p gx (by simp)
  have py := h.p gy (by simp)
  have hn : gx ≠ gy := fun q => by have := h.n; simp [q] at this
  have hsz := h.s.size
  have hd := h.d.size
  have l2 := dn b2
  have l3 := dn b3
  have wD : w.heap.size ≤ D.heap.size := by omega
  have hm : ∀ k, okL w D [gx, gy] k → (some k ≠ v5.ownBlock ∧ some k ≠ v6.ownBlock ∧ k ≠ g2 ∧ k ≠ g3 ∧ k ≠ gx ∧ k ≠ gy) := fun k hk => by
    rcases hk with hk | ⟨hk, hk2⟩
    · exact ⟨fun e => Nat.not_le.2 hk (Kd.iX h5 k e.symm), fun e => Nat.not_le.2 hk (Kd.iX h6 k e.symm), by omega, by omega, by omega, by omega⟩
    · exact ⟨Kd.fresh' (Kd.pY h5) k hk, Kd.fresh' (Kd.pY h6) k hk, by omega, by omega, fun e => hk2 (by simp [e]), fun e => hk2 (by simp [e])⟩
  exact ⟨Kd.dO (h.a _ rfl) hm, Kd.dO (h.b _ rfl) hm, Kd.fZ h5 h.d, Kd.fZ h6 h.d, aM b2 h.d, aM b3 h.d, px.2, py.2, by omega, by omega, by omega, by omega, by omega, by omega, hn.symm, hn, by omega, by omega, by omega, by omega, by omega, by omega, h.s⟩
end
end Go.Proofs.YtpflenjhmeaeoaaDoor.GUt
