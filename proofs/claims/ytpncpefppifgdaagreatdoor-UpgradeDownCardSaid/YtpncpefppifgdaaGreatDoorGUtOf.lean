/- law14.Of: a pod as the document has it: its contract: rows of its own, the commands shared. No conditions beside those stated. -/
import Derived.Test.YtpncpefppifgdaaGreatDoorGUtx0
namespace Go.Proofs.YtpncpefppifgdaaGreatDoor.GUt
open Go.RowKit Go.Proofs.YtpncpefppifgdaaGreatDoorW.PrintWords Go.Proofs.YtpncpefppifgdaaGreatDoorW.PrintLast Go.Proofs.YtpncpefppifgdaaGreatDoorW.PrintMore
set_option linter.unusedVariables false
set_option linter.unusedSimpArgs false
theorem yj : (Tryz.prog.info? 121).map (fun i => (i.zero, i.size, i.bytes)) = some (some (.agg #[.int .i64 0, .int .i64 0]), 2, 16) := by kernel_rfl
theorem yt : (Tryz.prog.info? 123).map (fun i => (i.zero, i.size, i.bytes)) = some (some (.agg #[.string ⟨#[]⟩, .string ⟨#[]⟩]), 2, 32) := by kernel_rfl
theorem yu : (Tryz.prog.info? 106).map (fun i => (i.zero, i.size, i.bytes)) = some (some (.agg #[.string ⟨#[]⟩, .string ⟨#[]⟩, .slice none 0 0, .slice none 0 0, .int .i64 0, .int .i64 0, .slice none 0 0]), 7, 120) := by kernel_rfl
def jd (x : S126) : S121 := ⟨x.f0, x.f1⟩
def kr (x : S127) : S123 := ⟨x.f0, x.f1⟩
def iH (x : S84) : S106 := ⟨x.f0, x.f1, x.f2, x.f3.map jd, x.f4, x.f5, x.f6.map kr⟩
def wP (l : List S84) : Prop := l.length * 120 ≤ 140737488355328 ∧ ∀ x ∈ l, x.f3.length * 16 ≤ 140737488355328 ∧ x.f6.length * 32 ≤ 140737488355328
instance (l : List S84) : Decidable (wP l) := by unfold wP; infer_instance
def gQ.f (a0 a1 : ByteArray) (a2 a3 : Int) (a4 : Bool) (l : List S84) : Option (ByteArray × ByteArray × Int × Int × Bool × List S106) := if wP l then some (a0, a1, a2, a3, a4, l.map iH) else none
def okO (P0 : Nat → Prop) (b lim : Nat) (k : Nat) : Prop := (P0 k ∧ k < b) ∨ (b + 3 ≤ k ∧ k < lim)
abbrev pc (a0 a1 : ByteArray) (a2 a3 : Int) (a4 : Bool) (v : Value) : Array Value := #[.string a0, .string a1, .int .i64 a2, .int .i64 a3, .bool a4, v]
structure OfO (P0 : Nat → Prop) (w W : World) (lim : Nat) (Pc Mc : Array Value) (v : Value) (xs : List S106) : Prop where
  p : W.heap[w.heap.size]? = some (.cells Pc 77 (0, 0))
  r : W.heap[w.heap.size + 1]? = some (.cells #[.string ⟨#[]⟩, .string ⟨#[]⟩, .int .i64 0, .int .i64 0, .bool false, .slice none 0 0] 94 (0, 0))
  m : W.heap[w.heap.size + 2]? = some (.cells Mc 94 (0, 0))
  n : Kd.N kV 106 W w.heap.size (okO P0 w.heap.size lim) v xs
  s : Below w.heap.size w W
  l : lim ≤ W.heap.size
  h : w.heap.size + 3 ≤ lim
section
variable {P0 : Nat → Prop} {w W W1 : World} {lim : Nat} {Pc Mc : Array Value} {v : Value} {xs : List S106}
theorem OfO.below (h : OfO P0 w W lim Pc Mc v xs) (hb : Below W.heap.size W W1) : OfO P0 w W1 lim Pc Mc v xs :=
  ⟨aJ h.p hb, aJ h.r hb, aJ h.m hb, Kd.jR h.n hb, aN h.s hb, Nat.le_trans h.l hb.size, h.h⟩
theorem OfO.set (h : OfO P0 w W lim Pc Mc v xs) {g : Nat} (hg : lim ≤ g) (j : Nat) (u : Value) : OfO P0 w (W.setCell ⟨g, j, none⟩ u) lim Pc Mc v xs := by
  have hh := h.h
  refine ⟨aD h.p (by simp; omega) _, aD h.r (by simp; omega) _, aD h.m (by simp; omega) _, Kd.pQ h.n (fun k hk => ?_) _, eu h.s (by omega), by simpa [World.setCell] using h.l, hh⟩
  rcases hk with hk | hk
  · simp; omega
  · simp; omega
theorem OfO.grown (h : OfO P0 w W lim Pc Mc v xs) {row : Option Nat} (hg : W.grownBy W1 row) (hr : ∀ k, row = some k → lim ≤ k) : OfO P0 w W1 lim Pc Mc v xs := by
  have hh := h.h
  have hl := h.l
  have ne : ∀ k, k < lim → some k ≠ row := fun k hk e => by have := hr k e.symm; omega
  refine ⟨(hg.block _ (aW h.p) (ne _ (by omega))).trans h.p, (hg.block _ (aW h.r) (ne _ (by omega))).trans h.r, (hg.block _ (aW h.m) (ne _ (by omega))).trans h.m, Kd.lI h.n hg (fun k hk => ne k ?_), Below.grown h.s hg (aR h.s) (fun k hk => by have := hr k hk; omega), Nat.le_trans hl hg.size, hh⟩
  rcases hk with hk | hk
  · omega
  · exact hk.2
theorem OfO.lift (h : OfO P0 w W lim Pc Mc v xs) : OfO P0 w W W.heap.size Pc Mc v xs :=
  ⟨h.p, h.r, h.m, Kd.kE h.n (fun k hk => hk.elim .inl fun q => .inr ⟨q.1, Nat.lt_of_lt_of_le q.2 h.l⟩), h.s, Nat.le_refl _, Nat.le_trans h.h h.l⟩
end
def okU (P0 : Nat → Prop) (b : Nat) (k : Nat) : Prop := (P0 k ∧ k < b) ∨ b + 3 ≤ k
theorem OfO.push {P0 : Nat → Prop} {w W w1 : World} {lim : Nat} {Pc : Array Value} {a0 a1 : ByteArray} {a2 a3 : Int} {a4 : Bool} {v v1 : Value} {xs ys : List S106} (h : OfO P0 w W lim Pc (pc a0 a1 a2 a3 a4 v) v xs)
    (hN : Kd.N kV 106 w1 w.heap.size (okU P0 w.heap.size) v1 ys) (hg : W.grownBy w1 v.ownBlock) : OfO P0 w (w1.setCell ⟨w.heap.size + 2, 5, none⟩ v1) w1.heap.size Pc (pc a0 a1 a2 a3 a4 v1) v1 ys := by
  have hh := h.h
  have hl := h.l
  have hs := hg.size
  refine ⟨aD ((hg.block _ (aW h.p) (Kd.o7 h.n h.p (by decide))).trans h.p) (by simp) _, aD ((hg.block _ (aW h.r) (Kd.o7 h.n h.r (by decide))).trans h.r) (by simp) _, aQ ((hg.block _ (aW h.m) (Kd.o7 h.n h.m (by decide))).trans h.m) 5 v1 rfl, Kd.pQ (Kd.kE (Kd.sW hN) (fun k hk => ?_)) (fun k hk => ?_) _, eu (Below.grown h.s hg (aR h.s) (fun k hk => Kd.qz h.n k hk)) (by omega), by simp [World.setCell], by omega⟩
  · exact hk.1.elim .inl fun q => .inr ⟨q, hk.2⟩
  · rcases hk with hk | hk
    · simp; omega
    · simp; omega
theorem OfO.away {P0 : Nat → Prop} {w W : World} {lim : Nat} {Pc Mc : Array Value} {v : Value} {xs : List S106} (h : OfO P0 w W lim Pc Mc v xs) (k : Nat) (hk : (P0 k ∧ k < w.heap.size) ∨ lim ≤ k) : okU P0 w.heap.size k ∧ some k ≠ v.ownBlock := by
  have hh := h.h
  refine ⟨hk.elim .inl fun q => .inr (by omega), fun e => ?_⟩
  have h1 := Kd.qz h.n k e.symm
  have h2 := h.n.1 k e.symm
  rcases hk with hk | hk
  · omega
  · rcases h2 with h2 | h2
    · omega
    · omega
structure OfI (W : World) (lim bc bx : Nat) (x : S84) (A2 : Option Addr) (c2 : Nat) (A3 : Option Addr) (c3 : Nat) (A6 : Option Addr) (c6 : Nat) (v3 v6 : Value) (ps : List S121) (es : List S123) : Prop where
  c : W.heap[bc]? = some (.cells #[.string x.f0, .string x.f1, .slice A2 x.f2.length c2, .slice A3 x.f3.length c3, .int .i64 x.f4, .int .i64 x.f5, .slice A6 x.f6.length c6] 84 (0, 0))
  x : W.heap[bx]? = some (.cells #[.string x.f0, .string x.f1, .slice A2 x.f2.length c2, v3, .int .i64 x.f4, .int .i64 x.f5, v6] 106 (0, 0))
  r3 : Kd.R o8 121 W lim (fun _ => True) v3 ps
  r6 : Kd.R o9 123 W lim (fun _ => True) v6 es
  lc : lim ≤ bc
  lx : lim ≤ bx
section
variable {W W1 : World} {lim bc bx : Nat} {x : S84} {A2 A3 A6 : Option Addr} {c2 c3 c6 : Nat} {v3 v6 : Value} {ps : List S121} {es : List S123}
theorem OfI.below (h : OfI W lim bc bx x A2 c2 A3 c3 A6 c6 v3 v6 ps es) (hb : Below W.heap.size W W1) : OfI W1 lim bc bx x A2 c2 A3 c3 A6 c6 v3 v6 ps es :=
  ⟨aJ h.c hb, aJ h.x hb, Kd.iE h.r3 hb, Kd.iE h.r6 hb, h.lc, h.lx⟩
theorem OfI.port {v : Value} {p : S121} (h : OfI W lim bc bx x A2 c2 A3 c3 A6 c6 v3 v6 ps es) (hR : Kd.R o8 121 W1 lim (fun _ => True) v (ps ++ [p])) (hg : W.grownBy W1 v3.ownBlock) : OfI (W1.setCell ⟨bx, 3, none⟩ v) lim bc bx x A2 c2 A3 c3 A6 c6 v v6 (ps ++ [p]) es := by
  have hcx : bc ≠ bx := uO h.c h.x (by decide)
  have h1 := (hg.block _ (aW h.c) (Kd.jE h.r3 h.c (by decide))).trans h.c
  have h2 := (hg.block _ (aW h.x) (Kd.jE h.r3 h.x (by decide))).trans h.x
  refine ⟨aD h1 (by simpa using hcx) _, aQ h2 3 v rfl, Kd.sJ hR h2 (by decide) 3 v, ?_, h.lc, h.lx⟩
  refine Kd.sJ (Kd.gM (Kd.sI (Kd.iI h.r6) hg (fun k hk e => ?_)) (fun _ _ => trivial)) h2 (by decide) 3 v
  obtain ⟨_, _, _, q, hq, cells, hc⟩ := hk
  exact Kd.jE h.r3 hc (by intro e; subst e; revert hq; decide) e
theorem OfI.env {v : Value} {p : S123} (h : OfI W lim bc bx x A2 c2 A3 c3 A6 c6 v3 v6 ps es) (hR : Kd.R o9 123 W1 lim (fun _ => True) v (es ++ [p])) (hg : W.grownBy W1 v6.ownBlock) : OfI (W1.setCell ⟨bx, 6, none⟩ v) lim bc bx x A2 c2 A3 c3 A6 c6 v3 v ps (es ++ [p]) := by
  have hcx : bc ≠ bx := uO h.c h.x (by decide)
  have h1 := (hg.block _ (aW h.c) (Kd.jE h.r6 h.c (by decide))).trans h.c
  have h2 := (hg.block _ (aW h.x) (Kd.jE h.r6 h.x (by decide))).trans h.x
  refine ⟨aD h1 (by simpa using hcx) _, aQ h2 6 v rfl, ?_, Kd.sJ hR h2 (by decide) 6 v, h.lc, h.lx⟩
  refine Kd.sJ (Kd.gM (Kd.sI (Kd.iI h.r3) hg (fun k hk e => ?_)) (fun _ _ => trivial)) h2 (by decide) 6 v
  obtain ⟨_, _, _, q, hq, cells, hc⟩ := hk
  exact Kd.jE h.r6 hc (by intro e; subst e; revert hq; decide) e
end
theorem Bq {W : World} {ok : Nat → Prop} {ad : Addr} {n : Nat} {xs : List S84} (h : Kd.F k84 W ok (some ad) n xs) (i : Int) (h0 : 0 ≤ i) (h1 : i < n) {A2 : Option Addr} {c2 : Nat}
    (hx2 : W.cell? ⟨(ad.add (i.toNat * 7)).block,(ad.add (i.toNat * 7)).off + 2,none⟩ = some (.slice A2 (au xs i).f2.length c2)) : (au xs i).f2.length ≤ c2 ∧ Kd.F Kd.string W ok A2 (au xs i).f2.length (au xs i).f2 := by
  obtain ⟨ad', c, he, hcl, hK, hcc, _⟩ := Kd.sV h z84 i h0 h1
  injection he with he
  subst he
  obtain ⟨B2, d2, B3, d3, B6, d6, hc, hl, hF, _⟩ := j6 hK
  have h2 := hcc 2 (.slice B2 (au xs i).f2.length d2) (by rw [hc]; rfl)
  have e : ad.add (i.toNat * k84.sz + 2) = ⟨(ad.add (i.toNat * 7)).block,(ad.add (i.toNat * 7)).off + 2,none⟩ := by
    exact bM _ _ 2 (by omega)
  rw [e, hx2] at h2
  injection h2 with h2
  injection h2 with e1 _ e3
  subst e1
  subst e3
  exact ⟨hl, hF⟩
theorem uJ (P0 : Nat → Prop) (w : World) (a0 a1 : ByteArray) (a2 a3 : Int) (a4 : Bool) (v : Value) : OfO P0 w (((w.alloc (.cells (pc a0 a1 a2 a3 a4 v) 77)).alloc (.cells #[.string ⟨#[]⟩, .string ⟨#[]⟩, .int .i64 0, .int .i64 0, .bool false, .slice none 0 0] 94)).alloc (.cells (pc a0 a1 a2 a3 a4 (.slice none 0 0)) 94)) (w.heap.size + 3) (pc a0 a1 a2 a3 a4 v) (pc a0 a1 a2 a3 a4 (.slice none 0 0)) (.slice none 0 0) [] := by
  refine ⟨ak (ak (heap_alloc_new w _) _) _, ak ?_ _, ?_, Kd.jw _ _ _ _ _, ((Below.refl _ w).alloc (Nat.le_refl _) _).alloc (by simp) _ |>.alloc (by simp; omega) _, by simp, Nat.le_refl _⟩
  · have q := heap_alloc_new (w.alloc (.cells (pc a0 a1 a2 a3 a4 v) 77)) (.cells #[.string ⟨#[]⟩, .string ⟨#[]⟩, .int .i64 0, .int .i64 0, .bool false, .slice none 0 0] 94)
    simpa using q
  · have q := heap_alloc_new ((w.alloc (.cells (pc a0 a1 a2 a3 a4 v) 77)).alloc (.cells #[.string ⟨#[]⟩, .string ⟨#[]⟩, .int .i64 0, .int .i64 0, .bool false, .slice none 0 0] 94)) (.cells (pc a0 a1 a2 a3 a4 (.slice none 0 0)) 94)
    simpa using q
theorem uK (W : World) (x : S84) (A2 : Option Addr) (c2 : Nat) (A3 : Option Addr) (c3 : Nat) (A6 : Option Addr) (c6 : Nat) : OfI ((W.alloc (.cells #[.string x.f0, .string x.f1, .slice A2 x.f2.length c2, .slice A3 x.f3.length c3, .int .i64 x.f4, .int .i64 x.f5, .slice A6 x.f6.length c6] 84)).alloc (.cells #[.string x.f0, .string x.f1, .slice A2 x.f2.length c2, .slice none 0 0, .int .i64 x.f4, .int .i64 x.f5, .slice none 0 0] 106)) W.heap.size W.heap.size (W.heap.size + 1) x A2 c2 A3 c3 A6 c6 (.slice none 0 0) (.slice none 0 0) [] [] := by
  refine ⟨ak (heap_alloc_new W _) _, ?_, Kd.je _ _ _ _ _, Kd.je _ _ _ _ _, Nat.le_refl _, by omega⟩
  have q := heap_alloc_new (W.alloc (.cells #[.string x.f0, .string x.f1, .slice A2 x.f2.length c2, .slice A3 x.f3.length c3, .int .i64 x.f4, .int .i64 x.f5, .slice A6 x.f6.length c6] 84)) (.cells #[.string x.f0, .string x.f1, .slice A2 x.f2.length c2, .slice none 0 0, .int .i64 x.f4, .int .i64 x.f5, .slice none 0 0] 106)
  simpa using q
theorem zR {W : World} {lim : Nat} {ok BZ Ca : Nat → Prop} {x : S84} {A2 B3 B6 : Option Addr} {c2 n3 d3 n6 d6 : Nat} (hc : x.f2.length ≤ c2 ∧ Kd.F Kd.string W ok A2 x.f2.length x.f2) (h3 : Kd.R o8 121 W lim BZ (.slice B3 n3 d3) (x.f3.map jd)) (h6 : Kd.R o9 123 W lim Ca (.slice B6 n6 d6) (x.f6.map kr)) (hk : ∀ k, lim ≤ k → ok k) :
    Kd.FK kV W ok (iH x) [.string x.f0, .string x.f1, .slice A2 x.f2.length c2, .slice B3 n3 d3, .int .i64 x.f4, .int .i64 x.f5, .slice B6 n6 d6] := by
  obtain ⟨e3, l3, _⟩ := Kd.gY h3
  obtain ⟨e6, l6, _⟩ := Kd.gY h6
  subst e3
  subst e6
  exact vZ W ok (iH x) hc.1 hc.2 l3 (Kd.mX (Kd.R_F (Kd.iI h3)) (fun k hk' => hk k hk'.2.1)) l6 (Kd.mX (Kd.R_F (Kd.iI h6)) (fun k hk' => hk k hk'.2.1))
theorem wQ {P0 : Nat → Prop} {b lim k : Nat} (h : okO P0 b lim k) : k ≠ b + 1 := by
  rcases h with h | h
  · omega
  · omega
theorem oP {B : Nat} {w W : World} {g : Nat} (h : Below B w W) (hg : B ≤ g) (j : Nat) (v : Value) : Below B w (W.setCell ⟨g, j, none⟩ v) := h.setCell hg _
set_option maxHeartbeats 16000000 in
set_option maxRecDepth 100000 in
theorem gQ.calls (BD : Nat → Prop) (a0 a1 : ByteArray) (a2 a3 : Int) (a4 : Bool) (A5 : Option Addr) (c5 : Nat) (l : List S84) (r1 r2 : ByteArray) (r3 r4 : Int) (r5 : Bool) (r6 : List S106) (w : World) (hs0 : Kd.V k84 84 w w.heap.size (fun k_ => BD k_) (.slice A5 l.length c5) l) (h : gQ.f a0 a1 a2 a3 a4 l = some (r1, r2, r3, r4, r5, r6)) :
    Calls Tryz.prog 32 #[.agg #[.string a0, .string a1, .int .i64 a2, .int .i64 a3, .bool a4, .slice A5 l.length c5]] w fun e w' => ∃ BN : Value, e = .returned (.agg #[.string r1, .string r2, .int .i64 r3, .int .i64 r4, .bool r5, BN]) ∧ Kd.V kV 106 w' w.heap.size (fun k_ => BD k_ ∨ w.heap.size ≤ k_) BN r6 ∧ Below w.heap.size w w' := by
  have hok : wP l := Decidable.by_contra fun hn => by rw [gQ.f, if_neg hn] at h; cases h
  rw [gQ.f, if_pos hok] at h
  simp only [Option.some.injEq, Prod.mk.injEq] at h
  obtain ⟨rfl, rfl, rfl, rfl, rfl, rfl⟩ := h
  have HOK := Aside0.mk hok
  have HF := Aside0.mk (Kd.nQ (Kd.V_F hs0))
  have HC := Aside0.mk (Kd.d9 hs0).2.2
  clear hok hs0
  have Cb := Tryz.underlying77
  have Cc := Tryz.underlying94
  have Ce := Tryz.underlying84
  have BO := Tryz.underlying106
  have HS := Aside0.mk (uJ BD w a0 a1 a2 a3 a4 (.slice A5 l.length c5))
  go_enter Tryz.func32, Tryz.ntmps32
  go_wp2
  go_loopg [25] l.length (fun kq v25 w' => ∃ (i : Nat) (v : Value) (lim : Nat), v25 = .int .i64 (i : Int) ∧ Aside0 (i + kq = l.length) ∧ Aside0 (OfO BD w w' lim (pc a0 a1 a2 a3 a4 (.slice A5 l.length c5)) (pc a0 a1 a2 a3 a4 v) v ((l.take i).map iH)))
  case atStart => exact ⟨0, _, _, rfl, ⟨by omega⟩, HS⟩
  case round =>
    clear HS
    obtain ⟨i, v, BJ, rfl, hi, HO⟩ := hrel
    cases gk with
    | zero =>
      obtain rfl : i = l.length := by have := hi.out; omega
      have hend : decide (((l.length : Nat) : Int) < (l.length : Int)) = false := decide_eq_false (by omega)
      have HO' := HO.out
      rw [List.take_length] at HO'
      replace HO := Aside0.mk HO'
      clear HO' hi
      obtain ⟨Av, nv, cv, ev⟩ : ∃ B n d, v = .slice B n d := (Kd.iR HO.out.n).elim fun A h => h.elim fun c e => ⟨A, _, c, e⟩
      subst ev
      have m0 : wr.cell? ⟨w.heap.size + 1 + 1, 0, none⟩ = some (.string a0) := (ah HO.out.m 0).trans rfl
      have m1 : wr.cell? ⟨w.heap.size + 1 + 1, 1, none⟩ = some (.string a1) := (ah HO.out.m 1).trans rfl
      have m2 : wr.cell? ⟨w.heap.size + 1 + 1, 2, none⟩ = some (.int .i64 a2) := (ah HO.out.m 2).trans rfl
      have m3 : wr.cell? ⟨w.heap.size + 1 + 1, 3, none⟩ = some (.int .i64 a3) := (ah HO.out.m 3).trans rfl
      have m4 : wr.cell? ⟨w.heap.size + 1 + 1, 4, none⟩ = some (.bool a4) := (ah HO.out.m 4).trans rfl
      have m5 : wr.cell? ⟨w.heap.size + 1 + 1, 5, none⟩ = some (.slice Av nv cv) := (ah HO.out.m 5).trans rfl
      have r0 : wr.cell? ⟨w.heap.size + 1, 0, none⟩ = some (.string ⟨#[]⟩) := (ah HO.out.r 0).trans rfl
      have r1 : wr.cell? ⟨w.heap.size + 1, 1, none⟩ = some (.string ⟨#[]⟩) := (ah HO.out.r 1).trans rfl
      have r2 : wr.cell? ⟨w.heap.size + 1, 2, none⟩ = some (.int .i64 0) := (ah HO.out.r 2).trans rfl
      have r3 : wr.cell? ⟨w.heap.size + 1, 3, none⟩ = some (.int .i64 0) := (ah HO.out.r 3).trans rfl
      have r4 : wr.cell? ⟨w.heap.size + 1, 4, none⟩ = some (.bool false) := (ah HO.out.r 4).trans rfl
      have r5 : wr.cell? ⟨w.heap.size + 1, 5, none⟩ = some (.slice none 0 0) := (ah HO.out.r 5).trans rfl
      have s0 := av HO.out.r 0
      have s1 := av HO.out.r 1
      have s2 := av HO.out.r 2
      have s3 := av HO.out.r 3
      have s4 := av HO.out.r 4
      have s5 := av HO.out.r 5
      go_wp2
      have hl1 : w.heap.size ≤ w.heap.size + 1 := by omega
      refine bodyPost_ret (results_cell_row rfl _ _ (w.heap.size + 1) 94 #[.string a0, .string a1, .int .i64 a2, .int .i64 a3, .bool a4, .slice Av nv cv] (0, 0) _ rfl (by refine aQ (cs := #[.string a0, .string a1, .int .i64 a2, .int .i64 a3, .bool a4, .slice none 0 0]) ?_ 5 _ rfl; refine aQ (cs := #[.string a0, .string a1, .int .i64 a2, .int .i64 a3, .bool false, .slice none 0 0]) ?_ 4 _ rfl; refine aQ (cs := #[.string a0, .string a1, .int .i64 a2, .int .i64 0, .bool false, .slice none 0 0]) ?_ 3 _ rfl; refine aQ (cs := #[.string a0, .string a1, .int .i64 0, .int .i64 0, .bool false, .slice none 0 0]) ?_ 2 _ rfl; refine aQ (cs := #[.string a0, .string ⟨#[]⟩, .int .i64 0, .int .i64 0, .bool false, .slice none 0 0]) ?_ 1 _ rfl; refine aQ (cs := #[.string ⟨#[]⟩, .string ⟨#[]⟩, .int .i64 0, .int .i64 0, .bool false, .slice none 0 0]) ?_ 0 _ rfl; exact HO.out.r) Tryz.underlying94 rfl (by kernel_rfl)) rfl ?_
      refine ⟨_, rfl, Kd.N_V (base := w.heap.size) (Kd.kE (ok := okO BD w.heap.size BJ) ?_ (fun k hk => hk.elim (fun q => .inl q.1) (fun q => .inr (by omega)))), ?_⟩
      · iterate 6 (refine Kd.pQ ?_ (fun k hk => wQ hk) _)
        exact HO.out.n
      · iterate 6 (refine eu ?_ hl1)
        exact HO.out.s
    | succ k1 =>
      replace HO := Aside0.mk HO.out.lift
      have hlt : i < l.length := by have := hi.out; omega
      have c1 : decide ((i : Int) < (l.length : Int)) = true := decide_eq_true (by omega)
      have p1 : 0 ≤ (i : Int) := by omega
      have q1 : (i : Int) < (l.length : Int) := by omega
      obtain ⟨ad, A2, c2, A3, c3, A6, c6, e, hx0, hx1, hx2, hx3, hx4, hx5, hx6, BP, BQ, BR, BK, BS, BL⟩ := kF HC.out (i : Int) p1 q1
      cases e
      have hcmd := Bq HF.out (i : Int) p1 q1 hx2
      have hmem : au l (i : Int) ∈ l := by
        have e : au l (i : Int) = l[i] := by simp [au, List.getElem?_eq_getElem hlt]
        rw [e]; exact List.getElem_mem hlt
      have hsz := HOK.out.2 _ hmem
      have htk : (l.take (i + 1)).map iH = (l.take i).map iH ++ [iH (au l (i : Int))] := by
        rw [List.take_add_one, List.map_append, List.getElem?_eq_getElem hlt]
        simp [au, List.getElem?_eq_getElem hlt]
      replace hx0 := (HO.out.s.cell (World.block_lt_of_cell? w _ hx0)).trans hx0
      replace hx1 := (HO.out.s.cell (World.block_lt_of_cell? w _ hx1)).trans hx1
      replace hx2 := (HO.out.s.cell (World.block_lt_of_cell? w _ hx2)).trans hx2
      replace hx3 := (HO.out.s.cell (World.block_lt_of_cell? w _ hx3)).trans hx3
      replace hx4 := (HO.out.s.cell (World.block_lt_of_cell? w _ hx4)).trans hx4
      replace hx5 := (HO.out.s.cell (World.block_lt_of_cell? w _ hx5)).trans hx5
      replace hx6 := (HO.out.s.cell (World.block_lt_of_cell? w _ hx6)).trans hx6
      simp only [Int.toNat_natCast] at hx0 hx1 hx2 hx3 hx4 hx5 hx6
      generalize au l (i : Int) = x at hx0 hx1 hx2 hx3 hx4 hx5 hx6 BP BQ BR BK BS BL hcmd hmem hsz htk
      replace p1 := eq_true p1
      replace q1 := eq_true q1
      have q3 : (i < l.length) = True := eq_true hlt
      have K3 := Aside0.mk BK
      have K6 := Aside0.mk BL
      have HCM := Aside0.mk hcmd
      have HSZ := Aside0.mk hsz
      have HTK := Aside0.mk htk
      have hwv : Value.int .i64 (wrap64 ((i : Int) + 1)) = Value.int .i64 ((i + 1 : Nat) : Int) := by have := Kd.jX HC.out; rw [bW (by omega) (by omega)]; rfl
      have HWV := Aside0.mk hwv
      have hnx : Aside0 (i + 1 + k1 = l.length) := ⟨by have := hi.out; omega⟩
      clear BP BQ BR BK BS BL hcmd hmem hsz htk hwv
      have z5 : wr.cell? ⟨w.heap.size, 5, none⟩ = some (.slice (some ad) l.length c5) := (ah HO.out.p 5).trans rfl
      have HB1 := Aside0.mk (((Below.refl wr.heap.size wr).alloc (Nat.le_refl _) (.cells #[.string x.f0, .string x.f1, .slice A2 x.f2.length c2, .slice A3 x.f3.length c3, .int .i64 x.f4, .int .i64 x.f5, .slice A6 x.f6.length c6] 84)).alloc (by simp) (.cells #[.string x.f0, .string x.f1, .slice A2 x.f2.length c2, .slice none 0 0, .int .i64 x.f4, .int .i64 x.f5, .slice none 0 0] 106))
      have Bw := Aside0.mk (HO.out.below HB1.out)
      have HI1 := Aside0.mk (uK wr x A2 c2 A3 c3 A6 c6)
      have hlw : w.heap.size < wr.heap.size := by have := HO.out.h; have := HO.out.l; omega
      go_wp2
      clear z5 hlw hx0 hx1 hx2 hx3 hx4 hx5 hx6
      obtain ⟨W0, hW0⟩ : ∃ W0, W0 = wr := ⟨_, rfl⟩
      obtain ⟨LIM, hLIM⟩ : ∃ m, m = W0.heap.size := ⟨_, rfl⟩
      rw [← hW0, ← hLIM] at Bw HI1 HB1
      rw [← hW0, ← hLIM]
      have HLM := Aside0.mk (Nat.le_of_eq hLIM)
      clear hW0 hLIM HO
      go_loopg [43] x.f3.length (fun kq v43 w' => ∃ (j : Nat) (v3 : Value), v43 = .int .i64 (j : Int) ∧ Aside0 (j + kq = x.f3.length) ∧ Aside0 (OfO BD w w' LIM (pc a0 a1 a2 a3 a4 (.slice (some ad) l.length c5)) (pc a0 a1 a2 a3 a4 v) v ((l.take i).map iH)) ∧ Aside0 (OfI w' LIM LIM (LIM + 1) x A2 c2 A3 c3 A6 c6 v3 (.slice none 0 0) ((x.f3.take j).map jd) []) ∧ Aside0 (Below LIM W0 w'))
      case atStart => exact ⟨0, _, rfl, ⟨by omega⟩, Bw, HI1, HB1⟩
      case round =>
        clear Bw HI1 HB1
        obtain ⟨j, v3, rfl, hj, Bw, HI1, HB1⟩ := hrel
        cases gk with
        | zero =>
          obtain rfl : j = x.f3.length := by have := hj.out; omega
          have HI1' := HI1.out
          rw [List.take_length] at HI1'
          replace HI1 := Aside0.mk HI1'
          clear HI1' hj
          have z6 : wr.cell? ⟨_, 6, none⟩ = some (.slice A6 x.f6.length c6) := (ah HI1.out.c 6).trans rfl
          go_wp2
          clear z6
          go_loopg [61] x.f6.length (fun kq v61 w' => ∃ (j : Nat) (v6 : Value), v61 = .int .i64 (j : Int) ∧ Aside0 (j + kq = x.f6.length) ∧ Aside0 (OfO BD w w' LIM (pc a0 a1 a2 a3 a4 (.slice (some ad) l.length c5)) (pc a0 a1 a2 a3 a4 v) v ((l.take i).map iH)) ∧ Aside0 (OfI w' LIM LIM (LIM + 1) x A2 c2 A3 c3 A6 c6 v3 v6 (x.f3.map jd) ((x.f6.take j).map kr)) ∧ Aside0 (Below LIM W0 w'))
          case atStart => exact ⟨0, _, rfl, ⟨by omega⟩, Bw, HI1, HB1⟩
          case round =>
            clear Bw HI1 HB1
            obtain ⟨j, v6, rfl, hj, Bw, HI1, HB1⟩ := hrel
            cases gk with
            | zero =>
              obtain rfl : j = x.f6.length := by have := hj.out; omega
              have HI1' := HI1.out
              rw [List.take_length] at HI1'
              replace HI1 := Aside0.mk HI1'
              clear HI1' hj
              obtain ⟨B3, n3, d3, e3⟩ : ∃ B n d, v3 = .slice B n d := (Kd.iJ HI1.out.r3).elim fun A h => h.elim fun c e => ⟨A, _, c, e⟩
              subst e3
              obtain ⟨B6, n6, d6, e6⟩ : ∃ B n d, v6 = .slice B n d := (Kd.iJ HI1.out.r6).elim fun A h => h.elim fun c e => ⟨A, _, c, e⟩
              subst e6
              have HFK := Aside0.mk (zR (ok := fun k => (BD k ∧ k < w.heap.size) ∨ LIM ≤ k) ⟨HCM.out.1, Kd.mX (Kd.jQ HCM.out.2 Bw.out.s) (fun k hk => .inl hk)⟩ HI1.out.r3 HI1.out.r6 (fun k hk => .inr hk))
              have HN := Aside0.mk (Kd.kE (ok' := okU BD w.heap.size) Bw.out.n (fun k hk => hk.elim .inl fun q => .inr q.1))
              have hlw : w.heap.size + 3 ≤ wr.heap.size := by have := Bw.out.h; have := Bw.out.l; omega
              have HLW := Aside0.mk hlw
              have zm : wr.cell? ⟨w.heap.size + 1 + 1, 5, none⟩ = some v := (ah Bw.out.m 5).trans rfl
              have s0 : wr.cell? ⟨LIM + 1, 0, none⟩ = some (.string x.f0) := (ah HI1.out.x 0).trans rfl
              have s1 : wr.cell? ⟨LIM + 1, 1, none⟩ = some (.string x.f1) := (ah HI1.out.x 1).trans rfl
              have s2 : wr.cell? ⟨LIM + 1, 2, none⟩ = some (.slice A2 x.f2.length c2) := (ah HI1.out.x 2).trans rfl
              have s3 : wr.cell? ⟨LIM + 1, 3, none⟩ = some (.slice B3 n3 d3) := (ah HI1.out.x 3).trans rfl
              have s4 : wr.cell? ⟨LIM + 1, 4, none⟩ = some (.int .i64 x.f4) := (ah HI1.out.x 4).trans rfl
              have s5 : wr.cell? ⟨LIM + 1, 5, none⟩ = some (.int .i64 x.f5) := (ah HI1.out.x 5).trans rfl
              have s6 : wr.cell? ⟨LIM + 1, 6, none⟩ = some (.slice B6 n6 d6) := (ah HI1.out.x 6).trans rfl
              clear hlw
              go_wp2_with (first | (at_builtin; refine Kd.vF kV (w0 := w) w.heap.size rfl (.tmp 73) (.tmp 75) 92 106 _ _ rfl Tryz.underlying92 yu rfl (by decide) (by omega) v ((l.take i).map iH) (iH x) [.string x.f0, .string x.f1, .slice A2 x.f2.length c2, .slice B3 n3 d3, .int .i64 x.f4, .int .i64 x.f5, .slice B6 n6 d6] (okU BD w.heap.size) (fun k => (BD k ∧ k < w.heap.size) ∨ LIM ≤ k) rfl rfl HFK.out (fun k hk => Bw.out.away k hk) (fun k hk => .inr (Nat.le_trans HLW.out hk)) HN.out Bw.out.s Bw.out.s.size (by have := HOK.out.1; have := hnx.out; simp; omega) ?_; intro BU w1 hN hB hg hat; obtain ⟨An, cn, en⟩ := Kd.iR hN; obtain ⟨ln, hln⟩ : ∃ n, ((l.take i).map iH ++ [iH x]).length = n := ⟨_, rfl⟩; rw [hln] at en; subst en; clear hln; have BH := Aside0.mk (Bw.out.push hN hg); have y5 : w1.cell? ⟨w.heap.size + 1 + 1, 5, none⟩ = some v := (ah ((hg.block _ (aW Bw.out.m) (Kd.o7 Bw.out.n Bw.out.m (by decide))).trans Bw.out.m) 5).trans rfl; have f5 : w1.frozen? ⟨w.heap.size + 1 + 1, 5, none⟩ = false := av ((hg.block _ (aW Bw.out.m) (Kd.o7 Bw.out.n Bw.out.m (by decide))).trans Bw.out.m) 5; clear hN hB hg hat))
              go_roundg k1
              case measure => exact Nat.lt_succ_self k1
              case rel => exact ⟨i + 1, _, _, by first | exact HWV.out | rfl, hnx, ⟨HTK.out ▸ BH.out⟩⟩
            | succ k2 =>
              have hjt : j < x.f6.length := by have := hj.out; omega
              have c1j : decide ((j : Int) < (x.f6.length : Int)) = true := decide_eq_true (by omega)
              have p1j : 0 ≤ (j : Int) := by omega
              have q1j : (j : Int) < (x.f6.length : Int) := by omega
              obtain ⟨pd, e, hy0, hy1⟩ := lJ K6.out (j : Int) p1j q1j
              cases e
              replace hy0 := (Bw.out.s.cell (World.block_lt_of_cell? w _ hy0)).trans hy0
              replace hy1 := (Bw.out.s.cell (World.block_lt_of_cell? w _ hy1)).trans hy1
              have Bz : (x.f6.take (j + 1)).map kr = (x.f6.take j).map kr ++ [kr (fC x.f6 (j : Int))] := by
                rw [List.take_add_one, List.map_append, List.getElem?_eq_getElem hjt]
                simp [fC, List.getElem?_eq_getElem hjt]
              simp only [Int.toNat_natCast] at hy0 hy1
              generalize fC x.f6 (j : Int) = p at hy0 hy1 Bz
              replace p1j := eq_true p1j
              replace q1j := eq_true q1j
              have q3j : (j < x.f6.length) = True := eq_true hjt
              have BF := Aside0.mk Bz
              have BG : Value.int .i64 (wrap64 ((j : Int) + 1)) = Value.int .i64 ((j + 1 : Nat) : Int) := by have := Kd.jX K6.out; rw [bW (by omega) (by omega)]; rfl
              have hnx2 : Aside0 (j + 1 + k2 = x.f6.length) := ⟨by have := hj.out; omega⟩
              have z3 : (World.alloc wr (.cells #[.string p.f0, .string p.f1] 127)).cell? ⟨_, 6, none⟩ = some v6 := (ah (ak HI1.out.x _) 6).trans rfl
              clear Bz
              have BA := (Below.refl wr.heap.size wr).alloc (Nat.le_refl _) (.cells #[.string p.f0, .string p.f1] 127)
              have BI := Aside0.mk (Bw.out.below BA)
              have HI2 := Aside0.mk (HI1.out.below BA)
              have HB2 := Aside0.mk (HB1.out.alloc (Nat.le_trans HLM.out HB1.out.size) (.cells #[.string p.f0, .string p.f1] 127))
              clear BA
              have q0 : (World.alloc wr (.cells #[.string p.f0, .string p.f1] 127)).cell? ⟨wr.heap.size, 0, none⟩ = some (.string p.f0) := (ah (heap_alloc_new wr _) 0).trans rfl
              have q1 : (World.alloc wr (.cells #[.string p.f0, .string p.f1] 127)).cell? ⟨wr.heap.size, 1, none⟩ = some (.string p.f1) := (ah (heap_alloc_new wr _) 1).trans rfl
              go_upto_region 14 with (fail)
              (try simp only [Act.put, List.setIfInBounds_toArray, List.set_cons_zero, List.set_cons_succ])
              clear hy0 hy1 p1j q1j q3j c1j
              generalize World.alloc wr (.cells #[.string p.f0, .string p.f1] 127) = wA at BI HI2 HB2 z3 q0 q1 ⊢
              go_wp2_with (first | (at_builtin; refine Kd.jW o9 (w0 := _) _ rfl (.tmp 66) (.tmp 68) 104 123 _ _ rfl Tryz.underlying104 yt rfl (by decide) (by omega) v6 ((x.f6.take j).map kr) (kr p) [.string p.f0, .string p.f1] (fun _ => True) (fun _ => False) rfl rfl (vY _ _ _ (kr p)) (fun _ hk => hk.elim) (fun _ _ => trivial) HI2.out.r6 HB2.out (Nat.le_trans HLM.out HB2.out.size) (by have := HSZ.out.2; simp; omega) ?_; intro BU w1 hR hB hg hat; obtain ⟨An, cn, en⟩ := Kd.iJ hR; obtain ⟨ln, hln⟩ : ∃ n, ((x.f6.take j).map kr ++ [kr p]).length = n := ⟨_, rfl⟩; rw [hln] at en; subst en; clear hln; have HI3 := Aside0.mk (HI2.out.env hR hg); have BH := Aside0.mk ((BI.out.grown hg (Kd.qm HI2.out.r6)).set HI2.out.lx 6 (.slice An ln cn)); have HB3 := Aside0.mk (oP hB HI2.out.lx 6 (.slice An ln cn)); have y3 : w1.cell? ⟨_, 6, none⟩ = some v6 := (ah ((hg.block _ (aW HI2.out.x) (Kd.jE HI2.out.r6 HI2.out.x (by decide))).trans HI2.out.x) 6).trans rfl; have f3 := av ((hg.block _ (aW HI2.out.x) (Kd.jE HI2.out.r6 HI2.out.x (by decide))).trans HI2.out.x) 6; clear hR hB hg hat))
              go_roundg k2
              case measure => exact Nat.lt_succ_self k2
              case rel => exact ⟨j + 1, _, by first | exact BG | rfl, hnx2, BH, ⟨BF.out ▸ HI3.out⟩, HB3⟩
        | succ k2 =>
          have hjt : j < x.f3.length := by have := hj.out; omega
          have c1j : decide ((j : Int) < (x.f3.length : Int)) = true := decide_eq_true (by omega)
          have p1j : 0 ≤ (j : Int) := by omega
          have q1j : (j : Int) < (x.f3.length : Int) := by omega
          obtain ⟨pd, e, hy0, hy1⟩ := mI K3.out (j : Int) p1j q1j
          cases e
          replace hy0 := (Bw.out.s.cell (World.block_lt_of_cell? w _ hy0)).trans hy0
          replace hy1 := (Bw.out.s.cell (World.block_lt_of_cell? w _ hy1)).trans hy1
          have Bz : (x.f3.take (j + 1)).map jd = (x.f3.take j).map jd ++ [jd (gu x.f3 (j : Int))] := by
            rw [List.take_add_one, List.map_append, List.getElem?_eq_getElem hjt]
            simp [gu, List.getElem?_eq_getElem hjt]
          simp only [Int.toNat_natCast] at hy0 hy1
          generalize gu x.f3 (j : Int) = p at hy0 hy1 Bz
          replace p1j := eq_true p1j
          replace q1j := eq_true q1j
          have q3j : (j < x.f3.length) = True := eq_true hjt
          have BF := Aside0.mk Bz
          have BG : Value.int .i64 (wrap64 ((j : Int) + 1)) = Value.int .i64 ((j + 1 : Nat) : Int) := by have := Kd.jX K3.out; rw [bW (by omega) (by omega)]; rfl
          have hnx2 : Aside0 (j + 1 + k2 = x.f3.length) := ⟨by have := hj.out; omega⟩
          have z3 : (World.alloc wr (.cells #[.int .i64 p.f0, .int .i64 p.f1] 126)).cell? ⟨_, 3, none⟩ = some v3 := (ah (ak HI1.out.x _) 3).trans rfl
          clear Bz
          have BA := (Below.refl wr.heap.size wr).alloc (Nat.le_refl _) (.cells #[.int .i64 p.f0, .int .i64 p.f1] 126)
          have BI := Aside0.mk (Bw.out.below BA)
          have HI2 := Aside0.mk (HI1.out.below BA)
          have HB2 := Aside0.mk (HB1.out.alloc (Nat.le_trans HLM.out HB1.out.size) (.cells #[.int .i64 p.f0, .int .i64 p.f1] 126))
          clear BA
          have q0 : (World.alloc wr (.cells #[.int .i64 p.f0, .int .i64 p.f1] 126)).cell? ⟨wr.heap.size, 0, none⟩ = some (.int .i64 p.f0) := (ah (heap_alloc_new wr _) 0).trans rfl
          have q1 : (World.alloc wr (.cells #[.int .i64 p.f0, .int .i64 p.f1] 126)).cell? ⟨wr.heap.size, 1, none⟩ = some (.int .i64 p.f1) := (ah (heap_alloc_new wr _) 1).trans rfl
          go_upto_region 9 with (fail)
          (try simp only [Act.put, List.setIfInBounds_toArray, List.set_cons_zero, List.set_cons_succ])
          clear hy0 hy1 p1j q1j q3j c1j
          generalize World.alloc wr (.cells #[.int .i64 p.f0, .int .i64 p.f1] 126) = wA at BI HI2 HB2 z3 q0 q1 ⊢
          go_wp2_with (first | (at_builtin; refine Kd.jW o8 (w0 := _) _ rfl (.tmp 48) (.tmp 54) 103 121 _ _ rfl Tryz.underlying103 yj rfl (by decide) (by omega) v3 ((x.f3.take j).map jd) (jd p) [.int .i64 p.f0, .int .i64 p.f1] (fun _ => True) (fun _ => False) rfl rfl (vX _ _ _ (jd p)) (fun _ hk => hk.elim) (fun _ _ => trivial) HI2.out.r3 HB2.out (Nat.le_trans HLM.out HB2.out.size) (by have := HSZ.out.1; simp; omega) ?_; intro BU w1 hR hB hg hat; obtain ⟨An, cn, en⟩ := Kd.iJ hR; obtain ⟨ln, hln⟩ : ∃ n, ((x.f3.take j).map jd ++ [jd p]).length = n := ⟨_, rfl⟩; rw [hln] at en; subst en; clear hln; have HI3 := Aside0.mk (HI2.out.port hR hg); have BH := Aside0.mk ((BI.out.grown hg (Kd.qm HI2.out.r3)).set HI2.out.lx 3 (.slice An ln cn)); have HB3 := Aside0.mk (oP hB HI2.out.lx 3 (.slice An ln cn)); have y3 : w1.cell? ⟨_, 3, none⟩ = some v3 := (ah ((hg.block _ (aW HI2.out.x) (Kd.jE HI2.out.r3 HI2.out.x (by decide))).trans HI2.out.x) 3).trans rfl; have f3 := av ((hg.block _ (aW HI2.out.x) (Kd.jE HI2.out.r3 HI2.out.x (by decide))).trans HI2.out.x) 3; clear hR hB hg hat))
          go_roundg k2
          case measure => exact Nat.lt_succ_self k2
          case rel => exact ⟨j + 1, _, by first | exact BG | rfl, hnx2, BH, ⟨BF.out ▸ HI3.out⟩, HB3⟩
end Go.Proofs.YtpncpefppifgdaaGreatDoor.GUt
