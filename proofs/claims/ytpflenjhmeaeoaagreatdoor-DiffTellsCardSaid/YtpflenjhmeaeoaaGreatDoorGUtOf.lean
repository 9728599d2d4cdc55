/- law14.Of: a pod as the document has it: its contract: rows of its own, the commands shared. No conditions beside those stated. -/
import Derived.Test.YtpflenjhmeaeoaaGreatDoorGUtx0
namespace Go.Proofs.YtpflenjhmeaeoaaGreatDoor.GUt
open Go.RowKit Go.Proofs.YtpflenjhmeaeoaaGreatDoorW.PrintWords Go.Proofs.YtpflenjhmeaeoaaGreatDoorW.PrintLast Go.Proofs.YtpflenjhmeaeoaaGreatDoorW.PrintMore
set_option linter.unusedVariables false
set_option linter.unusedSimpArgs false
theorem zC : (Tryz.prog.info? 84).map (fun i => (i.zero, i.size, i.bytes)) = some (some (.agg #[.int .i64 0, .int .i64 0]), 2, 16) := by kernel_rfl
theorem zD : (Tryz.prog.info? 85).map (fun i => (i.zero, i.size, i.bytes)) = some (some (.agg #[.string ⟨#[]⟩, .string ⟨#[]⟩]), 2, 32) := by kernel_rfl
theorem zF : (Tryz.prog.info? 81).map (fun i => (i.zero, i.size, i.bytes)) = some (some (.agg #[.string ⟨#[]⟩, .string ⟨#[]⟩, .slice none 0 0, .slice none 0 0, .int .i64 0, .int .i64 0, .slice none 0 0]), 7, 120) := by kernel_rfl
def iJ (x : S88) : S84 := ⟨x.f0, x.f1⟩
def jm (x : S71) : S85 := ⟨x.f0, x.f1⟩
def iM (x : S69) : S81 := ⟨x.f0, x.f1, x.f2, x.f3.map iJ, x.f4, x.f5, x.f6.map jm⟩
def wK (l : List S69) : Prop := l.length * 120 ≤ 140737488355328 ∧ ∀ x ∈ l, x.f3.length * 16 ≤ 140737488355328 ∧ x.f6.length * 32 ≤ 140737488355328
instance (l : List S69) : Decidable (wK l) := by unfold wK; infer_instance
def iB.f (a0 a1 : ByteArray) (a2 a3 : Int) (a4 : Bool) (l : List S69) : Option (ByteArray × ByteArray × Int × Int × Bool × List S81) := if wK l then some (a0, a1, a2, a3, a4, l.map iM) else none
def okO (P0 : Nat → Prop) (b lim : Nat) (k : Nat) : Prop := (P0 k ∧ k < b) ∨ (b + 3 ≤ k ∧ k < lim)
abbrev pc (a0 a1 : ByteArray) (a2 a3 : Int) (a4 : Bool) (v : Value) : Array Value := #[.string a0, .string a1, .int .i64 a2, .int .i64 a3, .bool a4, v]
structure OfO (P0 : Nat → Prop) (w W : World) (lim : Nat) (Pc Mc : Array Value) (v : Value) (xs : List S81) : Prop where
  p : W.heap[w.heap.size]? = some (.cells Pc 49 (0, 0))
  r : W.heap[w.heap.size + 1]? = some (.cells #[.string ⟨#[]⟩, .string ⟨#[]⟩, .int .i64 0, .int .i64 0, .bool false, .slice none 0 0] 57 (0, 0))
  m : W.heap[w.heap.size + 2]? = some (.cells Mc 57 (0, 0))
  n : Kd.N k81 81 W w.heap.size (okO P0 w.heap.size lim) v xs
  s : Below w.heap.size w W
  l : lim ≤ W.heap.size
  h : w.heap.size + 3 ≤ lim
section
variable {P0 : Nat → Prop} {w W W1 : World} {lim : Nat} {Pc Mc : Array Value} {v : Value} {xs : List S81}
theorem OfO.below (h : OfO P0 w W lim Pc Mc v xs) (hb : Below W.heap.size W W1) : OfO P0 w W1 lim Pc Mc v xs :=
  ⟨aN h.p hb, aN h.r hb, aN h.m hb, Kd.jL h.n hb, aK h.s hb, Nat.le_trans h.l hb.size, h.h⟩
theorem OfO.set (h : OfO P0 w W lim Pc Mc v xs) {g : Nat} (hg : lim ≤ g) (j : Nat) (u : Value) : OfO P0 w (W.setCell ⟨g, j, none⟩ u) lim Pc Mc v xs := by
  have hh := h.h
  refine ⟨bL h.p (by simp; omega) _, bL h.r (by simp; omega) _, bL h.m (by simp; omega) _, Kd.ru h.n (fun k hk => ?_) _, gQ h.s (by omega), by simpa [World.setCell] using h.l, hh⟩
  rcases hk with hk | hk
  · simp; omega
  · simp; omega
theorem OfO.grown (h : OfO P0 w W lim Pc Mc v xs) {row : Option Nat} (hg : W.grownBy W1 row) (hr : ∀ k, row = some k → lim ≤ k) : OfO P0 w W1 lim Pc Mc v xs := by
  have hh := h.h
  have hl := h.l
  have ne : ∀ k, k < lim → some k ≠ row := fun k hk e => by have := hr k e.symm; omega
  refine ⟨(hg.block _ (dh h.p) (ne _ (by omega))).trans h.p, (hg.block _ (dh h.r) (ne _ (by omega))).trans h.r, (hg.block _ (dh h.m) (ne _ (by omega))).trans h.m, Kd.xC h.n hg (fun k hk => ne k ?_), Below.grown h.s hg (aM h.s) (fun k hk => by have := hr k hk; omega), Nat.le_trans hl hg.size, hh⟩
  rcases hk with hk | hk
  · omega
  · exact hk.2
theorem OfO.lift (h : OfO P0 w W lim Pc Mc v xs) : OfO P0 w W W.heap.size Pc Mc v xs :=
  ⟨h.p, h.r, h.m, Kd.je h.n (fun k hk => hk.elim .inl fun q => .inr ⟨q.1, Nat.lt_of_lt_of_le q.2 h.l⟩), h.s, Nat.le_refl _, Nat.le_trans h.h h.l⟩
end
def okU (P0 : Nat → Prop) (b : Nat) (k : Nat) : Prop := (P0 k ∧ k < b) ∨ b + 3 ≤ k
theorem OfO.push {P0 : Nat → Prop} {w W w1 : World} {lim : Nat} {Pc : Array Value} {a0 a1 : ByteArray} {a2 a3 : Int} {a4 : Bool} {v v1 : Value} {xs ys : List S81} (h : OfO P0 w W lim Pc (pc a0 a1 a2 a3 a4 v) v xs)
    (hN : Kd.N k81 81 w1 w.heap.size (okU P0 w.heap.size) v1 ys) (hg : W.grownBy w1 v.ownBlock) : OfO P0 w (w1.setCell ⟨w.heap.size + 2, 5, none⟩ v1) w1.heap.size Pc (pc a0 a1 a2 a3 a4 v1) v1 ys := by
  have hh := h.h
  have hl := h.l
  have hs := hg.size
  refine ⟨bL ((hg.block _ (dh h.p) (Kd.o9 h.n h.p (by decide))).trans h.p) (by simp) _, bL ((hg.block _ (dh h.r) (Kd.o9 h.n h.r (by decide))).trans h.r) (by simp) _, bN ((hg.block _ (dh h.m) (Kd.o9 h.n h.m (by decide))).trans h.m) 5 v1 rfl, Kd.ru (Kd.je (Kd.qC hN) (fun k hk => ?_)) (fun k hk => ?_) _, gQ (Below.grown h.s hg (aM h.s) (fun k hk => Kd.qB h.n k hk)) (by omega), by simp [World.setCell], by omega⟩
  · exact hk.1.elim .inl fun q => .inr ⟨q, hk.2⟩
  · rcases hk with hk | hk
    · simp; omega
    · simp; omega
theorem OfO.away {P0 : Nat → Prop} {w W : World} {lim : Nat} {Pc Mc : Array Value} {v : Value} {xs : List S81} (h : OfO P0 w W lim Pc Mc v xs) (k : Nat) (hk : (P0 k ∧ k < w.heap.size) ∨ lim ≤ k) : okU P0 w.heap.size k ∧ some k ≠ v.ownBlock := by
  have hh := h.h
  refine ⟨hk.elim .inl fun q => .inr (by omega), fun e => ?_⟩
  have h1 := Kd.qB h.n k e.symm
  have h2 := h.n.1 k e.symm
  rcases hk with hk | hk
  · omega
  · rcases h2 with h2 | h2
    · omega
    · omega
structure OfI (W : World) (lim bc bx : Nat) (x : S69) (A2 : Option Addr) (c2 : Nat) (A3 : Option Addr) (c3 : Nat) (A6 : Option Addr) (c6 : Nat) (v3 v6 : Value) (ps : List S84) (es : List S85) : Prop where
  c : W.heap[bc]? = some (.cells #[.string x.f0, .string x.f1, .slice A2 x.f2.length c2, .slice A3 x.f3.length c3, .int .i64 x.f4, .int .i64 x.f5, .slice A6 x.f6.length c6] 69 (0, 0))
  x : W.heap[bx]? = some (.cells #[.string x.f0, .string x.f1, .slice A2 x.f2.length c2, v3, .int .i64 x.f4, .int .i64 x.f5, v6] 81 (0, 0))
  r3 : Kd.R k84 84 W lim (fun _ => True) v3 ps
  r6 : Kd.R k85 85 W lim (fun _ => True) v6 es
  lc : lim ≤ bc
  lx : lim ≤ bx
section
variable {W W1 : World} {lim bc bx : Nat} {x : S69} {A2 A3 A6 : Option Addr} {c2 c3 c6 : Nat} {v3 v6 : Value} {ps : List S84} {es : List S85}
theorem OfI.below (h : OfI W lim bc bx x A2 c2 A3 c3 A6 c6 v3 v6 ps es) (hb : Below W.heap.size W W1) : OfI W1 lim bc bx x A2 c2 A3 c3 A6 c6 v3 v6 ps es :=
  ⟨aN h.c hb, aN h.x hb, Kd.fu h.r3 hb, Kd.fu h.r6 hb, h.lc, h.lx⟩
theorem OfI.port {v : Value} {p : S84} (h : OfI W lim bc bx x A2 c2 A3 c3 A6 c6 v3 v6 ps es) (hR : Kd.R k84 84 W1 lim (fun _ => True) v (ps ++ [p])) (hg : W.grownBy W1 v3.ownBlock) : OfI (W1.setCell ⟨bx, 3, none⟩ v) lim bc bx x A2 c2 A3 c3 A6 c6 v v6 (ps ++ [p]) es := by
  have hcx : bc ≠ bx := uO h.c h.x (by decide)
  have h1 := (hg.block _ (dh h.c) (Kd.kK h.r3 h.c (by decide))).trans h.c
  have h2 := (hg.block _ (dh h.x) (Kd.kK h.r3 h.x (by decide))).trans h.x
  refine ⟨bL h1 (by simpa using hcx) _, bN h2 3 v rfl, Kd.sZ hR h2 (by decide) 3 v, ?_, h.lc, h.lx⟩
  refine Kd.sZ (Kd.gW (Kd.sW (Kd.jh h.r6) hg (fun k hk e => ?_)) (fun _ _ => trivial)) h2 (by decide) 3 v
  obtain ⟨_, _, _, q, hq, cells, hc⟩ := hk
  exact Kd.kK h.r3 hc (by intro e; subst e; revert hq; decide) e
theorem OfI.env {v : Value} {p : S85} (h : OfI W lim bc bx x A2 c2 A3 c3 A6 c6 v3 v6 ps es) (hR : Kd.R k85 85 W1 lim (fun _ => True) v (es ++ [p])) (hg : W.grownBy W1 v6.ownBlock) : OfI (W1.setCell ⟨bx, 6, none⟩ v) lim bc bx x A2 c2 A3 c3 A6 c6 v3 v ps (es ++ [p]) := by
  have hcx : bc ≠ bx := uO h.c h.x (by decide)
  have h1 := (hg.block _ (dh h.c) (Kd.kK h.r6 h.c (by decide))).trans h.c
  have h2 := (hg.block _ (dh h.x) (Kd.kK h.r6 h.x (by decide))).trans h.x
  refine ⟨bL h1 (by simpa using hcx) _, bN h2 6 v rfl, ?_, Kd.sZ hR h2 (by decide) 6 v, h.lc, h.lx⟩
  refine Kd.sZ (Kd.gW (Kd.sW (Kd.jh h.r3) hg (fun k hk e => ?_)) (fun _ _ => trivial)) h2 (by decide) 6 v
  obtain ⟨_, _, _, q, hq, cells, hc⟩ := hk
  exact Kd.kK h.r6 hc (by intro e; subst e; revert hq; decide) e
end
theorem AX {W : World} {ok : Nat → Prop} {ad : Addr} {n : Nat} {xs : List S69} (h : Kd.F k69 W ok (some ad) n xs) (i : Int) (h0 : 0 ≤ i) (h1 : i < n) {A2 : Option Addr} {c2 : Nat}
    (hx2 : W.cell? ⟨(ad.add (i.toNat * 7)).block,(ad.add (i.toNat * 7)).off + 2,none⟩ = some (.slice A2 (aj xs i).f2.length c2)) : (aj xs i).f2.length ≤ c2 ∧ Kd.F Kd.string W ok A2 (aj xs i).f2.length (aj xs i).f2 := by
  obtain ⟨ad', c, he, hcl, hK, hcc, _⟩ := Kd.tF h z69 i h0 h1
  injection he with he
  subst he
  obtain ⟨B2, d2, B3, d3, B6, d6, hc, hl, hF, _⟩ := kY hK
  have h2 := hcc 2 (.slice B2 (aj xs i).f2.length d2) (by rw [hc]; rfl)
  have e : ad.add (i.toNat * k69.sz + 2) = ⟨(ad.add (i.toNat * 7)).block,(ad.add (i.toNat * 7)).off + 2,none⟩ := by
    exact bT _ _ 2 (by omega)
  rw [e, hx2] at h2
  injection h2 with h2
  injection h2 with e1 _ e3
  subst e1
  subst e3
  exact ⟨hl, hF⟩
theorem uI (P0 : Nat → Prop) (w : World) (a0 a1 : ByteArray) (a2 a3 : Int) (a4 : Bool) (v : Value) : OfO P0 w (((w.alloc (.cells (pc a0 a1 a2 a3 a4 v) 49)).alloc (.cells #[.string ⟨#[]⟩, .string ⟨#[]⟩, .int .i64 0, .int .i64 0, .bool false, .slice none 0 0] 57)).alloc (.cells (pc a0 a1 a2 a3 a4 (.slice none 0 0)) 57)) (w.heap.size + 3) (pc a0 a1 a2 a3 a4 v) (pc a0 a1 a2 a3 a4 (.slice none 0 0)) (.slice none 0 0) [] := by
  refine ⟨aD (aD (heap_alloc_new w _) _) _, aD ?_ _, ?_, Kd.qZ _ _ _ _ _, ((Below.refl _ w).alloc (Nat.le_refl _) _).alloc (by simp) _ |>.alloc (by simp; omega) _, by simp, Nat.le_refl _⟩
  · have q := heap_alloc_new (w.alloc (.cells (pc a0 a1 a2 a3 a4 v) 49)) (.cells #[.string ⟨#[]⟩, .string ⟨#[]⟩, .int .i64 0, .int .i64 0, .bool false, .slice none 0 0] 57)
    simpa using q
  · have q := heap_alloc_new ((w.alloc (.cells (pc a0 a1 a2 a3 a4 v) 49)).alloc (.cells #[.string ⟨#[]⟩, .string ⟨#[]⟩, .int .i64 0, .int .i64 0, .bool false, .slice none 0 0] 57)) (.cells (pc a0 a1 a2 a3 a4 (.slice none 0 0)) 57)
    simpa using q
theorem uJ (W : World) (x : S69) (A2 : Option Addr) (c2 : Nat) (A3 : Option Addr) (c3 : Nat) (A6 : Option Addr) (c6 : Nat) : OfI ((W.alloc (.cells #[.string x.f0, .string x.f1, .slice A2 x.f2.length c2, .slice A3 x.f3.length c3, .int .i64 x.f4, .int .i64 x.f5, .slice A6 x.f6.length c6] 69)).alloc (.cells #[.string x.f0, .string x.f1, .slice A2 x.f2.length c2, .slice none 0 0, .int .i64 x.f4, .int .i64 x.f5, .slice none 0 0] 81)) W.heap.size W.heap.size (W.heap.size + 1) x A2 c2 A3 c3 A6 c6 (.slice none 0 0) (.slice none 0 0) [] [] := by
  refine ⟨aD (heap_alloc_new W _) _, ?_, Kd.kJ _ _ _ _ _, Kd.kJ _ _ _ _ _, Nat.le_refl _, by omega⟩
  have q := heap_alloc_new (W.alloc (.cells #[.string x.f0, .string x.f1, .slice A2 x.f2.length c2, .slice A3 x.f3.length c3, .int .i64 x.f4, .int .i64 x.f5, .slice A6 x.f6.length c6] 69)) (.cells #[.string x.f0, .string x.f1, .slice A2 x.f2.length c2, .slice none 0 0, .int .i64 x.f4, .int .i64 x.f5, .slice none 0 0] 81)
  simpa using q
theorem zG {W : World} {lim : Nat} {ok BD BF : Nat → Prop} {x : S69} {A2 B3 B6 : Option Addr} {c2 n3 d3 n6 d6 : Nat} (hc : x.f2.length ≤ c2 ∧ Kd.F Kd.string W ok A2 x.f2.length x.f2) (h3 : Kd.R k84 84 W lim BD (.slice B3 n3 d3) (x.f3.map iJ)) (h6 : Kd.R k85 85 W lim BF (.slice B6 n6 d6) (x.f6.map jm)) (hk : ∀ k, lim ≤ k → ok k) :
    Kd.FK k81 W ok (iM x) [.string x.f0, .string x.f1, .slice A2 x.f2.length c2, .slice B3 n3 d3, .int .i64 x.f4, .int .i64 x.f5, .slice B6 n6 d6] := by
  obtain ⟨e3, l3, _⟩ := Kd.fI h3
  obtain ⟨e6, l6, _⟩ := Kd.fI h6
  subst e3
  subst e6
  exact xI W ok (iM x) hc.1 hc.2 l3 (Kd.lI (Kd.R_F (Kd.jh h3)) (fun k hk' => hk k hk'.2.1)) l6 (Kd.lI (Kd.R_F (Kd.jh h6)) (fun k hk' => hk k hk'.2.1))
theorem wL {P0 : Nat → Prop} {b lim k : Nat} (h : okO P0 b lim k) : k ≠ b + 1 := by
  rcases h with h | h
  · omega
  · omega
theorem oM {B : Nat} {w W : World} {g : Nat} (h : Below B w W) (hg : B ≤ g) (j : Nat) (v : Value) : Below B w (W.setCell ⟨g, j, none⟩ v) := h.setCell hg _
set_option maxHeartbeats 16000000 in
set_option maxRecDepth 100000 in
theorem iB.calls (Bg : Nat → Prop) (a0 a1 : ByteArray) (a2 a3 : Int) (a4 : Bool) (A5 : Option Addr) (c5 : Nat) (l : List S69) (r1 r2 : ByteArray) (r3 r4 : Int) (r5 : Bool) (r6 : List S81) (w : World) (hs0 : Kd.V k69 69 w w.heap.size (fun k_ => Bg k_) (.slice A5 l.length c5) l) (h : iB.f a0 a1 a2 a3 a4 l = some (r1, r2, r3, r4, r5, r6)) :
    Calls Tryz.prog 22 #[.agg #[.string a0, .string a1, .int .i64 a2, .int .i64 a3, .bool a4, .slice A5 l.length c5]] w fun e w' => ∃ Br : Value, e = .returned (.agg #[.string r1, .string r2, .int .i64 r3, .int .i64 r4, .bool r5, Br]) ∧ Kd.V k81 81 w' w.heap.size (fun k_ => Bg k_ ∨ w.heap.size ≤ k_) Br r6 ∧ Below w.heap.size w w' := by
  have hok : wK l := Decidable.by_contra fun hn => by rw [iB.f, if_neg hn] at h; cases h
  rw [iB.f, if_pos hok] at h
  simp only [Option.some.injEq, Prod.mk.injEq] at h
  obtain ⟨rfl, rfl, rfl, rfl, rfl, rfl⟩ := h
  have HOK := Aside0.mk hok
  have HF := Aside0.mk (Kd.nL (Kd.V_F hs0))
  have HC := Aside0.mk (Kd.dJ hs0).2.2
  clear hok hs0
  have BG := Tryz.underlying49
  have BH := Tryz.underlying57
  have BI := Tryz.underlying69
  have BJ := Tryz.underlying81
  have HS := Aside0.mk (uI Bg w a0 a1 a2 a3 a4 (.slice A5 l.length c5))
  go_enter Tryz.func22, Tryz.ntmps22
  go_wp2
  go_loopg [25] l.length (fun kq v25 w' => ∃ (i : Nat) (v : Value) (lim : Nat), v25 = .int .i64 (i : Int) ∧ Aside0 (i + kq = l.length) ∧ Aside0 (OfO Bg w w' lim (pc a0 a1 a2 a3 a4 (.slice A5 l.length c5)) (pc a0 a1 a2 a3 a4 v) v ((l.take i).map iM)))
  case atStart => exact ⟨0, _, _, rfl, ⟨by omega⟩, HS⟩
  case round =>
    clear HS
    obtain ⟨i, v, Bo, rfl, hi, HO⟩ := hrel
    cases gk with
    | zero =>
      obtain rfl : i = l.length := by have := hi.out; omega
      have hend : decide (((l.length : Nat) : Int) < (l.length : Int)) = false := decide_eq_false (by omega)
      have HO' := HO.out
      rw [List.take_length] at HO'
      replace HO := Aside0.mk HO'
      clear HO' hi
      obtain ⟨Av, nv, cv, ev⟩ : ∃ B n d, v = .slice B n d := (Kd.jC HO.out.n).elim fun A h => h.elim fun c e => ⟨A, _, c, e⟩
      subst ev
      have m0 : wr.cell? ⟨w.heap.size + 1 + 1, 0, none⟩ = some (.string a0) := (ah HO.out.m 0).trans rfl
      have m1 : wr.cell? ⟨w.heap.size + 1 + 1, 1, none⟩ = some (.string a1) := (ah HO.out.m 1).trans rfl
      have m2 : wr.cell? ⟨w.heap.size + 1 + 1, 2, none⟩ = some (.int .i64 a2) := (ah HO.out.m 2).trans rfl
      have m3 : wr.cell? ⟨w.heap.size + 1 + 1, 3, none⟩ = some (.int .i64 a3) := (ah HO.out.m 3).trans rfl
      have m4 : wr.cell? ⟨w.heap.size + 1 + 1, 4, none⟩ = some (.bool a4) := (ah HO.out.m 4).trans rfl
      have m5 : wr.cell? ⟨w.heap.size + 1 + 1, 5, none⟩ = some (.slice Av nv cv) := (ah HO.out.m 5).trans rfl
      have r0 : wr.cell? ⟨w.heap.size + 1, 0, none⟩ = some (.string ⟨#[]⟩) := (ah HO.out.r 0).trans rfl
      have r1 : wr.cell? ⟨w.heap.size + 1, 1, none⟩ = some (.string ⟨#[]⟩) := (ah HO.out.r 1).trans rfl
      have r2 : wr.cell? ⟨w.heap.size + 1, 2, none⟩ = some (.int .i64 0) := (ah HO.out.r 2).trans rfl
      have r3 : wr.cell? ⟨w.heap.size + 1, 3, none⟩ = some (.int .i64 0) := (ah HO.out.r 3).trans rfl
      have r4 : wr.cell? ⟨w.heap.size + 1, 4, none⟩ = some (.bool false) := (ah HO.out.r 4).trans rfl
      have r5 : wr.cell? ⟨w.heap.size + 1, 5, none⟩ = some (.slice none 0 0) := (ah HO.out.r 5).trans rfl
      have s0 := ak HO.out.r 0
      have s1 := ak HO.out.r 1
      have s2 := ak HO.out.r 2
      have s3 := ak HO.out.r 3
      have s4 := ak HO.out.r 4
      have s5 := ak HO.out.r 5
      go_wp2
      have hl1 : w.heap.size ≤ w.heap.size + 1 := by omega
      refine bodyPost_ret (results_cell_row rfl _ _ (w.heap.size + 1) 57 #[.string a0, .string a1, .int .i64 a2, .int .i64 a3, .bool a4, .slice Av nv cv] (0, 0) _ rfl (by refine bN (cs := #[.string a0, .string a1, .int .i64 a2, .int .i64 a3, .bool a4, .slice none 0 0]) ?_ 5 _ rfl; refine bN (cs := #[.string a0, .string a1, .int .i64 a2, .int .i64 a3, .bool false, .slice none 0 0]) ?_ 4 _ rfl; refine bN (cs := #[.string a0, .string a1, .int .i64 a2, .int .i64 0, .bool false, .slice none 0 0]) ?_ 3 _ rfl; refine bN (cs := #[.string a0, .string a1, .int .i64 0, .int .i64 0, .bool false, .slice none 0 0]) ?_ 2 _ rfl; refine bN (cs := #[.string a0, .string ⟨#[]⟩, .int .i64 0, .int .i64 0, .bool false, .slice none 0 0]) ?_ 1 _ rfl; refine bN (cs := #[.string ⟨#[]⟩, .string ⟨#[]⟩, .int .i64 0, .int .i64 0, .bool false, .slice none 0 0]) ?_ 0 _ rfl; exact HO.out.r) Tryz.underlying57 rfl (by kernel_rfl)) rfl ?_
      refine ⟨_, rfl, Kd.N_V (base := w.heap.size) (Kd.je (ok := okO Bg w.heap.size Bo) ?_ (fun k hk => hk.elim (fun q => .inl q.1) (fun q => .inr (by omega)))), ?_⟩
      · iterate 6 (refine Kd.ru ?_ (fun k hk => wL hk) _)
        exact HO.out.n
      · iterate 6 (refine gQ ?_ hl1)
        exact HO.out.s
    | succ k1 =>
      replace HO := Aside0.mk HO.out.lift
      have hlt : i < l.length := by have := hi.out; omega
      have c1 : decide ((i : Int) < (l.length : Int)) = true := decide_eq_true (by omega)
      have p1 : 0 ≤ (i : Int) := by omega
      have q1 : (i : Int) < (l.length : Int) := by omega
      obtain ⟨ad, A2, c2, A3, c3, A6, c6, e, hx0, hx1, hx2, hx3, hx4, hx5, hx6, Bt, Bu, Bv, Bp, Bw, Bq⟩ := lM HC.out (i : Int) p1 q1
      cases e
      have hcmd := AX HF.out (i : Int) p1 q1 hx2
      have hmem : aj l (i : Int) ∈ l := by
        have e : aj l (i : Int) = l[i] := by simp [aj, List.getElem?_eq_getElem hlt]
        rw [e]; exact List.getElem_mem hlt
      have hsz := HOK.out.2 _ hmem
      have htk : (l.take (i + 1)).map iM = (l.take i).map iM ++ [iM (aj l (i : Int))] := by
        rw [List.take_add_one, List.map_append, List.getElem?_eq_getElem hlt]
        simp [aj, List.getElem?_eq_getElem hlt]
      replace hx0 := (HO.out.s.cell (World.block_lt_of_cell? w _ hx0)).trans hx0
      replace hx1 := (HO.out.s.cell (World.block_lt_of_cell? w _ hx1)).trans hx1
      replace hx2 := (HO.out.s.cell (World.block_lt_of_cell? w _ hx2)).trans hx2
      replace hx3 := (HO.out.s.cell (World.block_lt_of_cell? w _ hx3)).trans hx3
      replace hx4 := (HO.out.s.cell (World.block_lt_of_cell? w _ hx4)).trans hx4
      replace hx5 := (HO.out.s.cell (World.block_lt_of_cell? w _ hx5)).trans hx5
      replace hx6 := (HO.out.s.cell (World.block_lt_of_cell? w _ hx6)).trans hx6
      simp only [Int.toNat_natCast] at hx0 hx1 hx2 hx3 hx4 hx5 hx6
      generalize aj l (i : Int) = x at hx0 hx1 hx2 hx3 hx4 hx5 hx6 Bt Bu Bv Bp Bw Bq hcmd hmem hsz htk
      replace p1 := eq_true p1
      replace q1 := eq_true q1
      have q3 : (i < l.length) = True := eq_true hlt
      have K3 := Aside0.mk Bp
      have K6 := Aside0.mk Bq
      have HCM := Aside0.mk hcmd
      have HSZ := Aside0.mk hsz
      have HTK := Aside0.mk htk
      have hwv : Value.int .i64 (wrap64 ((i : Int) + 1)) = Value.int .i64 ((i + 1 : Nat) : Int) := by have := Kd.mY HC.out; rw [dG (by omega) (by omega)]; rfl
      have HWV := Aside0.mk hwv
      have hnx : Aside0 (i + 1 + k1 = l.length) := ⟨by have := hi.out; omega⟩
      clear Bt Bu Bv Bp Bw Bq hcmd hmem hsz htk hwv
      have z5 : wr.cell? ⟨w.heap.size, 5, none⟩ = some (.slice (some ad) l.length c5) := (ah HO.out.p 5).trans rfl
      have HB1 := Aside0.mk (((Below.refl wr.heap.size wr).alloc (Nat.le_refl _) (.cells #[.string x.f0, .string x.f1, .slice A2 x.f2.length c2, .slice A3 x.f3.length c3, .int .i64 x.f4, .int .i64 x.f5, .slice A6 x.f6.length c6] 69)).alloc (by simp) (.cells #[.string x.f0, .string x.f1, .slice A2 x.f2.length c2, .slice none 0 0, .int .i64 x.f4, .int .i64 x.f5, .slice none 0 0] 81))
      have AZ := Aside0.mk (HO.out.below HB1.out)
      have HI1 := Aside0.mk (uJ wr x A2 c2 A3 c3 A6 c6)
      have hlw : w.heap.size < wr.heap.size := by have := HO.out.h; have := HO.out.l; omega
      go_wp2
      clear z5 hlw hx0 hx1 hx2 hx3 hx4 hx5 hx6
      obtain ⟨W0, hW0⟩ : ∃ W0, W0 = wr := ⟨_, rfl⟩
      obtain ⟨LIM, hLIM⟩ : ∃ m, m = W0.heap.size := ⟨_, rfl⟩
      rw [← hW0, ← hLIM] at AZ HI1 HB1
      rw [← hW0, ← hLIM]
      have HLM := Aside0.mk (Nat.le_of_eq hLIM)
      clear hW0 hLIM HO
      go_loopg [43] x.f3.length (fun kq v43 w' => ∃ (j : Nat) (v3 : Value), v43 = .int .i64 (j : Int) ∧ Aside0 (j + kq = x.f3.length) ∧ Aside0 (OfO Bg w w' LIM (pc a0 a1 a2 a3 a4 (.slice (some ad) l.length c5)) (pc a0 a1 a2 a3 a4 v) v ((l.take i).map iM)) ∧ Aside0 (OfI w' LIM LIM (LIM + 1) x A2 c2 A3 c3 A6 c6 v3 (.slice none 0 0) ((x.f3.take j).map iJ) []) ∧ Aside0 (Below LIM W0 w'))
      case atStart => exact ⟨0, _, rfl, ⟨by omega⟩, AZ, HI1, HB1⟩
      case round =>
        clear AZ HI1 HB1
        obtain ⟨j, v3, rfl, hj, AZ, HI1, HB1⟩ := hrel
        cases gk with
        | zero =>
          obtain rfl : j = x.f3.length := by have := hj.out; omega
          have HI1' := HI1.out
          rw [List.take_length] at HI1'
          replace HI1 := Aside0.mk HI1'
          clear HI1' hj
          have z6 : wr.cell? ⟨_, 6, none⟩ = some (.slice A6 x.f6.length c6) := (ah HI1.out.c 6).trans rfl
          go_wp2
          clear z6
          go_loopg [61] x.f6.length (fun kq v61 w' => ∃ (j : Nat) (v6 : Value), v61 = .int .i64 (j : Int) ∧ Aside0 (j + kq = x.f6.length) ∧ Aside0 (OfO Bg w w' LIM (pc a0 a1 a2 a3 a4 (.slice (some ad) l.length c5)) (pc a0 a1 a2 a3 a4 v) v ((l.take i).map iM)) ∧ Aside0 (OfI w' LIM LIM (LIM + 1) x A2 c2 A3 c3 A6 c6 v3 v6 (x.f3.map iJ) ((x.f6.take j).map jm)) ∧ Aside0 (Below LIM W0 w'))
          case atStart => exact ⟨0, _, rfl, ⟨by omega⟩, AZ, HI1, HB1⟩
          case round =>
            clear AZ HI1 HB1
            obtain ⟨j, v6, rfl, hj, AZ, HI1, HB1⟩ := hrel
            cases gk with
            | zero =>
              obtain rfl : j = x.f6.length := by have := hj.out; omega
              have HI1' := HI1.out
              rw [List.take_length] at HI1'
              replace HI1 := Aside0.mk HI1'
              clear HI1' hj
              obtain ⟨B3, n3, d3, e3⟩ : ∃ B n d, v3 = .slice B n d := (Kd.iE HI1.out.r3).elim fun A h => h.elim fun c e => ⟨A, _, c, e⟩
              subst e3
              obtain ⟨B6, n6, d6, e6⟩ : ∃ B n d, v6 = .slice B n d := (Kd.iE HI1.out.r6).elim fun A h => h.elim fun c e => ⟨A, _, c, e⟩
              subst e6
              have HFK := Aside0.mk (zG (ok := fun k => (Bg k ∧ k < w.heap.size) ∨ LIM ≤ k) ⟨HCM.out.1, Kd.lI (Kd.jB HCM.out.2 AZ.out.s) (fun k hk => .inl hk)⟩ HI1.out.r3 HI1.out.r6 (fun k hk => .inr hk))
              have HN := Aside0.mk (Kd.je (ok' := okU Bg w.heap.size) AZ.out.n (fun k hk => hk.elim .inl fun q => .inr q.1))
              have hlw : w.heap.size + 3 ≤ wr.heap.size := by have := AZ.out.h; have := AZ.out.l; omega
              have HLW := Aside0.mk hlw
              have zm : wr.cell? ⟨w.heap.size + 1 + 1, 5, none⟩ = some v := (ah AZ.out.m 5).trans rfl
              have s0 : wr.cell? ⟨LIM + 1, 0, none⟩ = some (.string x.f0) := (ah HI1.out.x 0).trans rfl
              have s1 : wr.cell? ⟨LIM + 1, 1, none⟩ = some (.string x.f1) := (ah HI1.out.x 1).trans rfl
              have s2 : wr.cell? ⟨LIM + 1, 2, none⟩ = some (.slice A2 x.f2.length c2) := (ah HI1.out.x 2).trans rfl
              have s3 : wr.cell? ⟨LIM + 1, 3, none⟩ = some (.slice B3 n3 d3) := (ah HI1.out.x 3).trans rfl
              have s4 : wr.cell? ⟨LIM + 1, 4, none⟩ = some (.int .i64 x.f4) := (ah HI1.out.x 4).trans rfl
              have s5 : wr.cell? ⟨LIM + 1, 5, none⟩ = some (.int .i64 x.f5) := (ah HI1.out.x 5).trans rfl
              have s6 : wr.cell? ⟨LIM + 1, 6, none⟩ = some (.slice B6 n6 d6) := (ah HI1.out.x 6).trans rfl
              clear hlw
              go_wp2_with (first | (at_builtin; refine Kd.vH k81 (w0 := w) w.heap.size rfl (.tmp 73) (.tmp 75) 55 81 _ _ rfl Tryz.underlying55 zF rfl (by decide) (by omega) v ((l.take i).map iM) (iM x) [.string x.f0, .string x.f1, .slice A2 x.f2.length c2, .slice B3 n3 d3, .int .i64 x.f4, .int .i64 x.f5, .slice B6 n6 d6] (okU Bg w.heap.size) (fun k => (Bg k ∧ k < w.heap.size) ∨ LIM ≤ k) rfl rfl HFK.out (fun k hk => AZ.out.away k hk) (fun k hk => .inr (Nat.le_trans HLW.out hk)) HN.out AZ.out.s AZ.out.s.size (by have := HOK.out.1; have := hnx.out; simp; omega) ?_; intro Bz w1 hN hB hg hat; obtain ⟨An, cn, en⟩ := Kd.jC hN; obtain ⟨ln, hln⟩ : ∃ n, ((l.take i).map iM ++ [iM x]).length = n := ⟨_, rfl⟩; rw [hln] at en; subst en; clear hln; have Bl := Aside0.mk (AZ.out.push hN hg); have y5 : w1.cell? ⟨w.heap.size + 1 + 1, 5, none⟩ = some v := (ah ((hg.block _ (dh AZ.out.m) (Kd.o9 AZ.out.n AZ.out.m (by decide))).trans AZ.out.m) 5).trans rfl; have f5 : w1.frozen? ⟨w.heap.size + 1 + 1, 5, none⟩ = false := ak ((hg.block _ (dh AZ.out.m) (Kd.o9 AZ.out.n AZ.out.m (by decide))).trans AZ.out.m) 5; clear hN hB hg hat))
              go_roundg k1
              case measure => exact Nat.lt_succ_self k1
              case rel => exact ⟨i + 1, _, _, by first | exact HWV.out | rfl, hnx, ⟨HTK.out ▸ Bl.out⟩⟩
            | succ k2 =>
              have hjt : j < x.f6.length := by have := hj.out; omega
              have c1j : decide ((j : Int) < (x.f6.length : Int)) = true := decide_eq_true (by omega)
              have p1j : 0 ≤ (j : Int) := by omega
              have q1j : (j : Int) < (x.f6.length : Int) := by omega
              obtain ⟨pd, e, hy0, hy1⟩ := mQ K6.out (j : Int) p1j q1j
              cases e
              replace hy0 := (AZ.out.s.cell (World.block_lt_of_cell? w _ hy0)).trans hy0
              replace hy1 := (AZ.out.s.cell (World.block_lt_of_cell? w _ hy1)).trans hy1
              have Bf : (x.f6.take (j + 1)).map jm = (x.f6.take j).map jm ++ [jm (gJ x.f6 (j : Int))] := by
                rw [List.take_add_one, List.map_append, List.getElem?_eq_getElem hjt]
                simp [gJ, List.getElem?_eq_getElem hjt]
              simp only [Int.toNat_natCast] at hy0 hy1
              generalize gJ x.f6 (j : Int) = p at hy0 hy1 Bf
              replace p1j := eq_true p1j
              replace q1j := eq_true q1j
              have q3j : (j < x.f6.length) = True := eq_true hjt
              have Bh := Aside0.mk Bf
              have Bj : Value.int .i64 (wrap64 ((j : Int) + 1)) = Value.int .i64 ((j + 1 : Nat) : Int) := by have := Kd.mY K6.out; rw [dG (by omega) (by omega)]; rfl
              have hnx2 : Aside0 (j + 1 + k2 = x.f6.length) := ⟨by have := hj.out; omega⟩
              have z3 : (World.alloc wr (.cells #[.string p.f0, .string p.f1] 71)).cell? ⟨_, 6, none⟩ = some v6 := (ah (aD HI1.out.x _) 6).trans rfl
              clear Bf
              have BA := (Below.refl wr.heap.size wr).alloc (Nat.le_refl _) (.cells #[.string p.f0, .string p.f1] 71)
              have Bn := Aside0.mk (AZ.out.below BA)
              have HI2 := Aside0.mk (HI1.out.below BA)
              have HB2 := Aside0.mk (HB1.out.alloc (Nat.le_trans HLM.out HB1.out.size) (.cells #[.string p.f0, .string p.f1] 71))
              clear BA
              have q0 : (World.alloc wr (.cells #[.string p.f0, .string p.f1] 71)).cell? ⟨wr.heap.size, 0, none⟩ = some (.string p.f0) := (ah (heap_alloc_new wr _) 0).trans rfl
              have q1 : (World.alloc wr (.cells #[.string p.f0, .string p.f1] 71)).cell? ⟨wr.heap.size, 1, none⟩ = some (.string p.f1) := (ah (heap_alloc_new wr _) 1).trans rfl
              go_upto_region 14 with (fail)
              (try simp only [Act.put, List.setIfInBounds_toArray, List.set_cons_zero, List.set_cons_succ])
              clear hy0 hy1 p1j q1j q3j c1j
              generalize World.alloc wr (.cells #[.string p.f0, .string p.f1] 71) = wA at Bn HI2 HB2 z3 q0 q1 ⊢
              go_wp2_with (first | (at_builtin; refine Kd.iK k85 (w0 := _) _ rfl (.tmp 66) (.tmp 68) 79 85 _ _ rfl Tryz.underlying79 zD rfl (by decide) (by omega) v6 ((x.f6.take j).map jm) (jm p) [.string p.f0, .string p.f1] (fun _ => True) (fun _ => False) rfl rfl (xH _ _ _ (jm p)) (fun _ hk => hk.elim) (fun _ _ => trivial) HI2.out.r6 HB2.out (Nat.le_trans HLM.out HB2.out.size) (by have := HSZ.out.2; simp; omega) ?_; intro Bz w1 hR hB hg hat; obtain ⟨An, cn, en⟩ := Kd.iE hR; obtain ⟨ln, hln⟩ : ∃ n, ((x.f6.take j).map jm ++ [jm p]).length = n := ⟨_, rfl⟩; rw [hln] at en; subst en; clear hln; have HI3 := Aside0.mk (HI2.out.env hR hg); have Bl := Aside0.mk ((Bn.out.grown hg (Kd.jo HI2.out.r6)).set HI2.out.lx 6 (.slice An ln cn)); have HB3 := Aside0.mk (oM hB HI2.out.lx 6 (.slice An ln cn)); have y3 : w1.cell? ⟨_, 6, none⟩ = some v6 := (ah ((hg.block _ (dh HI2.out.x) (Kd.kK HI2.out.r6 HI2.out.x (by decide))).trans HI2.out.x) 6).trans rfl; have f3 := ak ((hg.block _ (dh HI2.out.x) (Kd.kK HI2.out.r6 HI2.out.x (by decide))).trans HI2.out.x) 6; clear hR hB hg hat))
              go_roundg k2
              case measure => exact Nat.lt_succ_self k2
              case rel => exact ⟨j + 1, _, by first | exact Bj | rfl, hnx2, Bl, ⟨Bh.out ▸ HI3.out⟩, HB3⟩
        | succ k2 =>
          have hjt : j < x.f3.length := by have := hj.out; omega
          have c1j : decide ((j : Int) < (x.f3.length : Int)) = true := decide_eq_true (by omega)
          have p1j : 0 ≤ (j : Int) := by omega
          have q1j : (j : Int) < (x.f3.length : Int) := by omega
          obtain ⟨pd, e, hy0, hy1⟩ := ow K3.out (j : Int) p1j q1j
          cases e
          replace hy0 := (AZ.out.s.cell (World.block_lt_of_cell? w _ hy0)).trans hy0
          replace hy1 := (AZ.out.s.cell (World.block_lt_of_cell? w _ hy1)).trans hy1
          have Bf : (x.f3.take (j + 1)).map iJ = (x.f3.take j).map iJ ++ [iJ (gU x.f3 (j : Int))] := by
            rw [List.take_add_one, List.map_append, List.getElem?_eq_getElem hjt]
            simp [gU, List.getElem?_eq_getElem hjt]
          simp only [Int.toNat_natCast] at hy0 hy1
          generalize gU x.f3 (j : Int) = p at hy0 hy1 Bf
          replace p1j := eq_true p1j
          replace q1j := eq_true q1j
          have q3j : (j < x.f3.length) = True := eq_true hjt
          have Bh := Aside0.mk Bf
          have Bj : Value.int .i64 (wrap64 ((j : Int) + 1)) = Value.int .i64 ((j + 1 : Nat) : Int) := by have := Kd.mY K3.out; rw [dG (by omega) (by omega)]; rfl
          have hnx2 : Aside0 (j + 1 + k2 = x.f3.length) := ⟨by have := hj.out; omega⟩
          have z3 : (World.alloc wr (.cells #[.int .i64 p.f0, .int .i64 p.f1] 88)).cell? ⟨_, 3, none⟩ = some v3 := (ah (aD HI1.out.x _) 3).trans rfl
          clear Bf
          have BA := (Below.refl wr.heap.size wr).alloc (Nat.le_refl _) (.cells #[.int .i64 p.f0, .int .i64 p.f1] 88)
          have Bn := Aside0.mk (AZ.out.below BA)
          have HI2 := Aside0.mk (HI1.out.below BA)
          have HB2 := Aside0.mk (HB1.out.alloc (Nat.le_trans HLM.out HB1.out.size) (.cells #[.int .i64 p.f0, .int .i64 p.f1] 88))
          clear BA
          have q0 : (World.alloc wr (.cells #[.int .i64 p.f0, .int .i64 p.f1] 88)).cell? ⟨wr.heap.size, 0, none⟩ = some (.int .i64 p.f0) := (ah (heap_alloc_new wr _) 0).trans rfl
          have q1 : (World.alloc wr (.cells #[.int .i64 p.f0, .int .i64 p.f1] 88)).cell? ⟨wr.heap.size, 1, none⟩ = some (.int .i64 p.f1) := (ah (heap_alloc_new wr _) 1).trans rfl
          go_upto_region 9 with (fail)
          (try simp only [Act.put, List.setIfInBounds_toArray, List.set_cons_zero, List.set_cons_succ])
          clear hy0 hy1 p1j q1j q3j c1j
          generalize World.alloc wr (.cells #[.int .i64 p.f0, .int .i64 p.f1] 88) = wA at Bn HI2 HB2 z3 q0 q1 ⊢
          go_wp2_with (first | (at_builtin; refine Kd.iK k84 (w0 := _) _ rfl (.tmp 48) (.tmp 54) 78 84 _ _ rfl Tryz.underlying78 zC rfl (by decide) (by omega) v3 ((x.f3.take j).map iJ) (iJ p) [.int .i64 p.f0, .int .i64 p.f1] (fun _ => True) (fun _ => False) rfl rfl (xG _ _ _ (iJ p)) (fun _ hk => hk.elim) (fun _ _ => trivial) HI2.out.r3 HB2.out (Nat.le_trans HLM.out HB2.out.size) (by have := HSZ.out.1; simp; omega) ?_; intro Bz w1 hR hB hg hat; obtain ⟨An, cn, en⟩ := Kd.iE hR; obtain ⟨ln, hln⟩ : ∃ n, ((x.f3.take j).map iJ ++ [iJ p]).length = n := ⟨_, rfl⟩; rw [hln] at en; subst en; clear hln; have HI3 := Aside0.mk (HI2.out.port hR hg); have Bl := Aside0.mk ((Bn.out.grown hg (Kd.jo HI2.out.r3)).set HI2.out.lx 3 (.slice An ln cn)); have HB3 := Aside0.mk (oM hB HI2.out.lx 3 (.slice An ln cn)); have y3 : w1.cell? ⟨_, 3, none⟩ = some v3 := (ah ((hg.block _ (dh HI2.out.x) (Kd.kK HI2.out.r3 HI2.out.x (by decide))).trans HI2.out.x) 3).trans rfl; have f3 := ak ((hg.block _ (dh HI2.out.x) (Kd.kK HI2.out.r3 HI2.out.x (by decide))).trans HI2.out.x) 3; clear hR hB hg hat))
          go_roundg k2
          case measure => exact Nat.lt_succ_self k2
          case rel => exact ⟨j + 1, _, by first | exact Bj | rfl, hnx2, Bl, ⟨Bh.out ▸ HI3.out⟩, HB3⟩
end Go.Proofs.YtpflenjhmeaeoaaGreatDoor.GUt
