/- spec.Pod.Default of a pod of one container without lists: its contract, in terms of plain functions. No conditions beside those stated. -/
import Derived.Test.YtpflenjhmeaeoaaGreatDoorCp
import Derived.Test.YtpflenjhmeaeoaaGreatDoorGUtx8
import Derived.Laws.Cover3
namespace Go.Proofs.YtpflenjhmeaeoaaGreatDoor.GUt
open Go.RowKit Go.Proofs.YtpflenjhmeaeoaaGreatDoorW.PrintWords Go.Proofs.YtpflenjhmeaeoaaGreatDoorW.PrintLast Go.Proofs.YtpflenjhmeaeoaaGreatDoorW.PrintMore
set_option linter.unusedVariables false
set_option linter.unusedSimpArgs false
theorem Ak : (Tryz.prog.info? 69).map (fun i => (i.zero, i.size, i.bytes)) = some (some (.agg #[.string ⟨#[]⟩, .string ⟨#[]⟩, .slice none 0 0, .slice none 0 0, .int .i64 0, .int .i64 0, .slice none 0 0]), 7, 120) := by kernel_rfl
theorem zo : Kd.Heap k69 := by
  first
  | exact Kd.jF _ (Kd.fq Kd.gu (Kd.fq Kd.gu (Kd.fq (Kd.jd _ Kd.gu) (Kd.fq (Kd.jd _ (Kd.jF _ (Kd.fq (Kd.iU _) (Kd.iU _)))) (Kd.fq (Kd.iU _) (Kd.fq (Kd.iU _) (Kd.jd _ (Kd.jF _ (Kd.fq Kd.gu Kd.gu)))))))))
theorem xR {w : World} {base : Nat} {ok : Nat → Prop} {v : Value} {x : S69} (h : Kd.N k69 69 w base ok v [x]) :
    ∃ g cap cur A2 c2 A3 c3 A6 c6, v = .slice (some ⟨g, 0, none⟩) 1 cap ∧ base ≤ g ∧ 1 ≤ cap ∧ w.heap[g]? = some (.cells cur 69 (0, 0)) ∧ cur.toList.take 7 = [.string x.f0, .string x.f1, .slice A2 x.f2.length c2, .slice A3 x.f3.length c3, .int .i64 x.f4, .int .i64 x.f5, .slice A6 x.f6.length c6] ∧ cur.size = cap * 7 := by
  obtain ⟨_, rows, hl, ⟨_, inner, ho, hr⟩, hf⟩ := h
  obtain ⟨c, rfl⟩ : ∃ c, rows = [c] := by
    cases rows with
    | nil => cases hl
    | cons c l =>
      cases l with
      | nil => exact ⟨c, rfl⟩
      | cons _ _ => simp at hl
  obtain ⟨A2, c2, A3, c3, A6, c6, hc, _⟩ := kY (hf 0 x c rfl rfl)
  have hin := (hr.2 0 c rfl).1
  have hlen : inner.length = 7 := by have := hr.1; simp [Kd.raw] at this; exact this.trans rfl
  have hin' : inner = c := by
    rw [← hin]
    simp only [Nat.zero_mul, List.drop_zero]
    exact (List.take_of_length_le (by rw [hlen]; exact Nat.le_refl 7)).symm
  rcases ho.2 with ⟨_, h0⟩ | ⟨g, cap, cur, rfl, hg, hh, hn, _, hs, ht⟩
  · cases h0
  · exact ⟨g, cap, cur, A2, c2, A3, c3, A6, c6, rfl, hg, hn, hh, (ht.trans hin').trans hc, hs⟩
set_option maxHeartbeats 4000000 in
set_option maxRecDepth 100000 in
theorem zq.calls (A0 : Option Addr) (c0 : Nat) (x : S69) (w : World) (hr : Kd.C k69 w A0 1 [x]) :
    Calls Tryz.prog 50 #[.slice A0 1 c0] w fun e w' => ∃ v, e = .returned v ∧ Kd.N k69 69 w' w.heap.size (fun k_ => True) v [x] ∧ Below w.heap.size w w' := by
  obtain ⟨ad, rfl, _⟩ := hr.2.2 (by decide)
  have HF := Aside0.mk (Kd.C_F zo hr)
  clear hr
  have heq : (binOp .eql 47 (.slice (some ad) 1 c0) (.slice none 0 0)).run Tryz.prog w = .ok (.bool false) w := by
    simp only [binOp]
    simp [run_equal_slice_nil w 47 69 (some ad) 1 c0 Tryz.underlying47]
  go_enter Tryz.func50, Tryz.ntmps50
  go_wp2_with (first
    | ((with_reducible refine cZ (N := 5) rfl ?_); refine Kd.pQ k69 (w0 := w) w.heap.size 69 rfl rfl (xs := []) (inner := []) (ok := fun _ => True) (okp := fun _ => False) (by first | (go_simp; done) | (go_simp; rfl)) ⟨rfl, fun j y hy => by simp at hy⟩ (fun _ hk => trivial) trivial (Below.refl _ _) (Nat.le_refl _) (by simp) ?_; intro v1 w1 hn hb hg hat; have HN := Aside0.mk hn; have HB1 := Aside0.mk hb; have HA1 := Aside0.mk hat; have Bo := Aside0.mk (Kd.zY HF.out hb); clear hn hb hg hat)
    | (at_builtin; refine Kd.jD k69 (w0 := w) w.heap.size rfl (.tmp 5) (.tmp 6) 47 69 _ _ rfl Tryz.underlying47 Ak rfl (by decide) (by omega) v1 [] [x] (some ad) 1 c0 (fun _ => True) (fun k_ => k_ < w.heap.size ∧ k_ < w.heap.size) rfl rfl HN.out Bo.out (fun k_ hk => ⟨trivial, fun e => by obtain ⟨b, hb, hle⟩ := HA1.out; rw [hb] at e; injection e with e; have := hk.2; omega⟩) (fun k_ hk => trivial) HB1.out HB1.out.size (by simp) ?_; intro v2 w2 hn2 hb2 hg2 AZ; have Bf := Aside0.mk hn2; have HB2 := Aside0.mk hb2; clear hn2 hb2 hg2 AZ))
  go_ret
  exact ⟨_, rfl, Bf.out, HB2.out⟩
theorem infoSt : (Tryz.prog.info? 9).map (fun i => (i.zero, i.size, i.bytes)) = some (some (.string ⟨#[]⟩), 1, 16) := by kernel_rfl
theorem zu : (Tryz.prog.info? 88).map (fun i => (i.zero, i.size, i.bytes)) = some (some (.agg #[.int .i64 0, .int .i64 0]), 2, 16) := by kernel_rfl
theorem zw : (Tryz.prog.info? 71).map (fun i => (i.zero, i.size, i.bytes)) = some (some (.agg #[.string ⟨#[]⟩, .string ⟨#[]⟩]), 2, 32) := by kernel_rfl
set_option maxHeartbeats 4000000 in
set_option maxRecDepth 100000 in
theorem xS.calls (A0 : Option Addr) (c0 n : Nat) (w : World) (hn : n = 0) :
    Calls Tryz.prog 51 #[.slice A0 n c0] w fun e w' => ∃ A c, e = .returned (.slice A 0 c) ∧ Below w.heap.size w w' := by
  subst hn
  go_enter Tryz.func51, Tryz.ntmps51
  cases A0 with
  | none =>
    have heq : (binOp .eql 65 (.slice none 0 c0) (.slice none 0 0)).run Tryz.prog w = .ok (.bool true) w := by
      simp only [binOp]
      simp [run_equal_slice_nil w 65 9 none 0 c0 Tryz.underlying65]
    go_wp2
    go_ret
    exact ⟨none, 0, rfl, Below.refl _ _⟩
  | some ad =>
    have heq : (binOp .eql 65 (.slice (some ad) 0 c0) (.slice none 0 0)).run Tryz.prog w = .ok (.bool false) w := by
      simp only [binOp]
      simp [run_equal_slice_nil w 65 9 (some ad) 0 c0 Tryz.underlying65]
    have HF : ∀ W : World, Kd.F Kd.string W (fun _ => False) (some ad) 0 [] := fun W W' _ => ⟨rfl, by decide, fun h => absurd h (by decide)⟩
    go_wp2_with (first
      | ((with_reducible refine cZ (N := 5) rfl ?_); refine Kd.pQ Kd.string (w0 := w) w.heap.size 9 rfl rfl (xs := []) (inner := []) (ok := fun _ => True) (okp := fun _ => False) (by first | (go_simp; done) | (go_simp; rfl)) ⟨rfl, fun j y hy => by simp at hy⟩ (fun _ hk => trivial) trivial (Below.refl _ _) (Nat.le_refl _) (by simp) ?_; intro v1 w1 hn hb hg hat; have HN := Aside0.mk hn; have HB1 := Aside0.mk hb; clear hn hb hg hat)
      | (at_builtin; refine Kd.jD Kd.string (w0 := w) w.heap.size rfl (.tmp 5) (.tmp 6) 65 9 _ _ rfl Tryz.underlying65 infoSt rfl (by decide) (by omega) v1 [] [] (some ad) 0 c0 (fun _ => True) (fun _ => False) rfl rfl HN.out (HF _) (fun k_ hk => hk.elim) (fun k_ hk => trivial) HB1.out HB1.out.size (by simp) ?_; intro v2 w2 hn2 hb2 hg2 AZ; have Bf := Aside0.mk hn2; have HB2 := Aside0.mk hb2; clear hn2 hb2 hg2 AZ))
    go_ret
    obtain ⟨A, c, e⟩ := Kd.gG (base := 0) (Kd.N_V (base' := 0) Bf.out)
    exact ⟨A, c, by rw [e]; rfl, HB2.out⟩
set_option maxHeartbeats 4000000 in
set_option maxRecDepth 100000 in
theorem xU.calls (A0 : Option Addr) (c0 n : Nat) (w : World) (hn : n = 0) :
    Calls Tryz.prog 52 #[.slice A0 n c0] w fun e w' => ∃ A c, e = .returned (.slice A 0 c) ∧ Below w.heap.size w w' := by
  subst hn
  go_enter Tryz.func52, Tryz.ntmps52
  cases A0 with
  | none =>
    have heq : (binOp .eql 66 (.slice none 0 c0) (.slice none 0 0)).run Tryz.prog w = .ok (.bool true) w := by
      simp only [binOp]
      simp [run_equal_slice_nil w 66 88 none 0 c0 Tryz.underlying66]
    go_wp2
    go_ret
    exact ⟨none, 0, rfl, Below.refl _ _⟩
  | some ad =>
    have heq : (binOp .eql 66 (.slice (some ad) 0 c0) (.slice none 0 0)).run Tryz.prog w = .ok (.bool false) w := by
      simp only [binOp]
      simp [run_equal_slice_nil w 66 88 (some ad) 0 c0 Tryz.underlying66]
    have HF : ∀ W : World, Kd.F k88 W (fun _ => False) (some ad) 0 [] := fun W W' _ => ⟨rfl, by decide, fun h => absurd h (by decide)⟩
    go_wp2_with (first
      | ((with_reducible refine cZ (N := 5) rfl ?_); refine Kd.pQ k88 (w0 := w) w.heap.size 88 rfl rfl (xs := []) (inner := []) (ok := fun _ => True) (okp := fun _ => False) (by first | (go_simp; done) | (go_simp; rfl)) ⟨rfl, fun j y hy => by simp at hy⟩ (fun _ hk => trivial) trivial (Below.refl _ _) (Nat.le_refl _) (by simp) ?_; intro v1 w1 hn hb hg hat; have HN := Aside0.mk hn; have HB1 := Aside0.mk hb; clear hn hb hg hat)
      | (at_builtin; refine Kd.jD k88 (w0 := w) w.heap.size rfl (.tmp 5) (.tmp 6) 66 88 _ _ rfl Tryz.underlying66 zu rfl (by decide) (by omega) v1 [] [] (some ad) 0 c0 (fun _ => True) (fun _ => False) rfl rfl HN.out (HF _) (fun k_ hk => hk.elim) (fun k_ hk => trivial) HB1.out HB1.out.size (by simp) ?_; intro v2 w2 hn2 hb2 hg2 AZ; have Bf := Aside0.mk hn2; have HB2 := Aside0.mk hb2; clear hn2 hb2 hg2 AZ))
    go_ret
    obtain ⟨A, c, e⟩ := Kd.gG (base := 0) (Kd.N_V (base' := 0) Bf.out)
    exact ⟨A, c, by rw [e]; rfl, HB2.out⟩
set_option maxHeartbeats 4000000 in
set_option maxRecDepth 100000 in
theorem xV.calls (A0 : Option Addr) (c0 n : Nat) (w : World) (hn : n = 0) :
    Calls Tryz.prog 53 #[.slice A0 n c0] w fun e w' => ∃ A c, e = .returned (.slice A 0 c) ∧ Below w.heap.size w w' := by
  subst hn
  go_enter Tryz.func53, Tryz.ntmps53
  cases A0 with
  | none =>
    have heq : (binOp .eql 67 (.slice none 0 c0) (.slice none 0 0)).run Tryz.prog w = .ok (.bool true) w := by
      simp only [binOp]
      simp [run_equal_slice_nil w 67 71 none 0 c0 Tryz.underlying67]
    go_wp2
    go_ret
    exact ⟨none, 0, rfl, Below.refl _ _⟩
  | some ad =>
    have heq : (binOp .eql 67 (.slice (some ad) 0 c0) (.slice none 0 0)).run Tryz.prog w = .ok (.bool false) w := by
      simp only [binOp]
      simp [run_equal_slice_nil w 67 71 (some ad) 0 c0 Tryz.underlying67]
    have HF : ∀ W : World, Kd.F k71 W (fun _ => False) (some ad) 0 [] := fun W W' _ => ⟨rfl, by decide, fun h => absurd h (by decide)⟩
    go_wp2_with (first
      | ((with_reducible refine cZ (N := 5) rfl ?_); refine Kd.pQ k71 (w0 := w) w.heap.size 71 rfl rfl (xs := []) (inner := []) (ok := fun _ => True) (okp := fun _ => False) (by first | (go_simp; done) | (go_simp; rfl)) ⟨rfl, fun j y hy => by simp at hy⟩ (fun _ hk => trivial) trivial (Below.refl _ _) (Nat.le_refl _) (by simp) ?_; intro v1 w1 hn hb hg hat; have HN := Aside0.mk hn; have HB1 := Aside0.mk hb; clear hn hb hg hat)
      | (at_builtin; refine Kd.jD k71 (w0 := w) w.heap.size rfl (.tmp 5) (.tmp 6) 67 71 _ _ rfl Tryz.underlying67 zw rfl (by decide) (by omega) v1 [] [] (some ad) 0 c0 (fun _ => True) (fun _ => False) rfl rfl HN.out (HF _) (fun k_ hk => hk.elim) (fun k_ hk => trivial) HB1.out HB1.out.size (by simp) ?_; intro v2 w2 hn2 hb2 hg2 AZ; have Bf := Aside0.mk hn2; have HB2 := Aside0.mk hb2; clear hn2 hb2 hg2 AZ))
    go_ret
    obtain ⟨A, c, e⟩ := Kd.gG (base := 0) (Kd.N_V (base' := 0) Bf.out)
    exact ⟨A, c, by rw [e]; rfl, HB2.out⟩
structure Bun (w W : World) (P : Array Value) (g : Nat) (cu : Array Value) : Prop where
  p : W.heap[w.heap.size]? = some (.cells P 49 (0, 0))
  z : W.heap[w.heap.size + 1]? = some (.cells #[.string ⟨#[]⟩, .string ⟨#[]⟩, .int .i64 0, .int .i64 0, .bool false, .slice none 0 0] 49 (0, 0))
  c : W.heap[g]? = some (.cells cu 69 (0, 0))
  b : Below w.heap.size w W
  l : w.heap.size + 2 ≤ g
theorem Bun.below {w W W1 : World} {P : Array Value} {g : Nat} {cu : Array Value} (h : Bun w W P g cu) (hb : Below W.heap.size W W1) : Bun w W1 P g cu :=
  ⟨aN h.p hb, aN h.z hb, aN h.c hb, aK h.b hb, h.l⟩
theorem Bun.drawn {w W W1 : World} {P : Array Value} {g : Nat} {cu : Array Value} (h : Bun w W P g cu) (hd : Drawn0 W W1) : Bun w W1 P g cu := by
  obtain ⟨n, rfl⟩ := hd
  exact h.below (aW (Below.refl _ _) n)
theorem Bun.drew {w W : World} {P : Array Value} {g : Nat} {cu : Array Value} (h : Bun w W P g cu) : Bun w W.drew P g cu := h.below (iH (Below.refl _ _))
theorem Bun.set {w W : World} {P : Array Value} {g : Nat} {cu : Array Value} (h : Bun w W P g cu) (j : Nat) (u : Value) : Bun w (W.setCell ⟨g, j, none⟩ u) P g (cu.setIfInBounds j u) :=
  ⟨bL h.p (by have := h.l; simp; omega) _, bL h.z (by have := h.l; simp; omega) _, bN h.c j u rfl, gQ h.b (by have := h.l; omega), h.l⟩
structure Row7 (x : S69) (cu : Array Value) (u2 u3 u4 u5 u6 : Value) : Prop where
  s : 7 ≤ cu.size
  q0 : cu[0]? = some (.string x.f0)
  q1 : cu[1]? = some (.string x.f1)
  q2 : cu[2]? = some u2
  q3 : cu[3]? = some u3
  q4 : cu[4]? = some u4
  q5 : cu[5]? = some u5
  q6 : cu[6]? = some u6
theorem Row7.of {x : S69} {cu : Array Value} {u2 u3 u4 u5 u6 : Value} (h : cu.toList.take 7 = [.string x.f0, .string x.f1, u2, u3, u4, u5, u6]) (hs : 7 ≤ cu.size) : Row7 x cu u2 u3 u4 u5 u6 := by
  have q : ∀ j, j < 7 → cu[j]? = ([.string x.f0, .string x.f1, u2, u3, u4, u5, u6] : List Value)[j]? := fun j hj => by
    rw [← h, List.getElem?_take_of_lt hj]; simp
  exact ⟨hs, q 0 (by decide), q 1 (by decide), q 2 (by decide), q 3 (by decide), q 4 (by decide), q 5 (by decide), q 6 (by decide)⟩
theorem Row7.set2 {x : S69} {cu : Array Value} {u2 u3 u4 u5 u6 : Value} (h : Row7 x cu u2 u3 u4 u5 u6) (v : Value) : Row7 x (cu.setIfInBounds 2 v) v u3 u4 u5 u6 := by
  have hs := h.s
  exact ⟨by simpa using hs, by rw [Array.getElem?_setIfInBounds_ne (by decide)]; exact h.q0, by rw [Array.getElem?_setIfInBounds_ne (by decide)]; exact h.q1, by rw [Array.getElem?_setIfInBounds]; simp; omega, by rw [Array.getElem?_setIfInBounds_ne (by decide)]; exact h.q3, by rw [Array.getElem?_setIfInBounds_ne (by decide)]; exact h.q4, by rw [Array.getElem?_setIfInBounds_ne (by decide)]; exact h.q5, by rw [Array.getElem?_setIfInBounds_ne (by decide)]; exact h.q6⟩
theorem Row7.AO {x : S69} {cu : Array Value} {u2 u3 u4 u5 u6 : Value} (h : Row7 x cu u2 u3 u4 u5 u6) (v : Value) : Row7 x (cu.setIfInBounds 3 v) u2 v u4 u5 u6 := by
  have hs := h.s
  exact ⟨by simpa using hs, by rw [Array.getElem?_setIfInBounds_ne (by decide)]; exact h.q0, by rw [Array.getElem?_setIfInBounds_ne (by decide)]; exact h.q1, by rw [Array.getElem?_setIfInBounds_ne (by decide)]; exact h.q2, by rw [Array.getElem?_setIfInBounds]; simp; omega, by rw [Array.getElem?_setIfInBounds_ne (by decide)]; exact h.q4, by rw [Array.getElem?_setIfInBounds_ne (by decide)]; exact h.q5, by rw [Array.getElem?_setIfInBounds_ne (by decide)]; exact h.q6⟩
theorem Row7.AP {x : S69} {cu : Array Value} {u2 u3 u4 u5 u6 : Value} (h : Row7 x cu u2 u3 u4 u5 u6) (v : Value) : Row7 x (cu.setIfInBounds 4 v) u2 u3 v u5 u6 := by
  have hs := h.s
  exact ⟨by simpa using hs, by rw [Array.getElem?_setIfInBounds_ne (by decide)]; exact h.q0, by rw [Array.getElem?_setIfInBounds_ne (by decide)]; exact h.q1, by rw [Array.getElem?_setIfInBounds_ne (by decide)]; exact h.q2, by rw [Array.getElem?_setIfInBounds_ne (by decide)]; exact h.q3, by rw [Array.getElem?_setIfInBounds]; simp; omega, by rw [Array.getElem?_setIfInBounds_ne (by decide)]; exact h.q5, by rw [Array.getElem?_setIfInBounds_ne (by decide)]; exact h.q6⟩
theorem Row7.AQ {x : S69} {cu : Array Value} {u2 u3 u4 u5 u6 : Value} (h : Row7 x cu u2 u3 u4 u5 u6) (v : Value) : Row7 x (cu.setIfInBounds 5 v) u2 u3 u4 v u6 := by
  have hs := h.s
  exact ⟨by simpa using hs, by rw [Array.getElem?_setIfInBounds_ne (by decide)]; exact h.q0, by rw [Array.getElem?_setIfInBounds_ne (by decide)]; exact h.q1, by rw [Array.getElem?_setIfInBounds_ne (by decide)]; exact h.q2, by rw [Array.getElem?_setIfInBounds_ne (by decide)]; exact h.q3, by rw [Array.getElem?_setIfInBounds_ne (by decide)]; exact h.q4, by rw [Array.getElem?_setIfInBounds]; simp; omega, by rw [Array.getElem?_setIfInBounds_ne (by decide)]; exact h.q6⟩
theorem Row7.AU {x : S69} {cu : Array Value} {u2 u3 u4 u5 u6 : Value} (h : Row7 x cu u2 u3 u4 u5 u6) (v : Value) : Row7 x (cu.setIfInBounds 6 v) u2 u3 u4 u5 v := by
  have hs := h.s
  exact ⟨by simpa using hs, by rw [Array.getElem?_setIfInBounds_ne (by decide)]; exact h.q0, by rw [Array.getElem?_setIfInBounds_ne (by decide)]; exact h.q1, by rw [Array.getElem?_setIfInBounds_ne (by decide)]; exact h.q2, by rw [Array.getElem?_setIfInBounds_ne (by decide)]; exact h.q3, by rw [Array.getElem?_setIfInBounds_ne (by decide)]; exact h.q4, by rw [Array.getElem?_setIfInBounds_ne (by decide)]; exact h.q5, by rw [Array.getElem?_setIfInBounds]; simp; omega⟩
theorem zx {W : World} {n g cap : Nat} {cu : Array Value} {x : S69} {y4 y5 : Int} {B2 B3 B6 : Option Addr} {d2 d3 d6 : Nat} (hst : W.heap[g]? = some (.cells cu 69 (0, 0))) (hl : n ≤ g) (hcap : 1 ≤ cap) (h : Row7 x cu (.slice B2 0 d2) (.slice B3 0 d3) (.int .i64 y4) (.int .i64 y5) (.slice B6 0 d6)) :
    Kd.V k69 69 W n (fun k_ => n ≤ k_) (.slice (some ⟨g, 0, none⟩) 1 cap) [(⟨x.f0, x.f1, [], [], y4, y5, []⟩ : S69)] := by
  refine Kd.iV (xs := [(⟨x.f0, x.f1, [], [], y4, y5, []⟩ : S69)]) hcap (fun W1 hW => ?_)
  have hg1 := (hW g hl (dh hst)).trans hst
  refine ⟨rfl, by simp, fun _ => ⟨_, rfl, fun j p hj => ⟨[.string x.f0, .string x.f1, .slice B2 0 d2, .slice B3 0 d3, .int .i64 y4, .int .i64 y5, .slice B6 0 d6], rfl, ?_, fun i u hu => ?_⟩⟩⟩
  · obtain rfl : j = 0 := by
      cases j with
      | zero => rfl
      | succ j => simp at hj
    obtain rfl : (⟨x.f0, x.f1, [], [], y4, y5, []⟩ : S69) = p := by simpa using hj
    exact yV W1 (⟨x.f0, x.f1, [], [], y4, y5, []⟩ : S69) (Nat.zero_le _) ⟨rfl, by simp, fun h => by simp at h⟩ (Nat.zero_le _) ⟨rfl, by simp, fun h => by simp at h⟩ (Nat.zero_le _) ⟨rfl, by simp, fun h => by simp at h⟩
  · obtain rfl : j = 0 := by
      cases j with
      | zero => rfl
      | succ j => simp at hj
    have e : (⟨g, 0, none⟩ : Addr).add (0 * k69.sz + i) = ⟨g, i, none⟩ := by simp [Addr.add] <;> exact fun h => h.symm
    rw [e, ah hg1 i]
    obtain ⟨_, q0, q1, q2, q3, q4, q5, q6⟩ := h
    match i, hu with
    | 0, hu => exact q0.trans hu
    | 1, hu => exact q1.trans hu
    | 2, hu => exact q2.trans hu
    | 3, hu => exact q3.trans hu
    | 4, hu => exact q4.trans hu
    | 5, hu => exact q5.trans hu
    | 6, hu => exact q6.trans hu
    | i + 7, hu => cases hu
def bW.f (a0 a1 : ByteArray) (a2 a3 : Int) (a4 : Bool) (l : List S69) : Option (ByteArray × ByteArray × Int × Int × Bool × List S69) :=
  if a1.toList = [] ∧ l.length = 1 ∧ (aj l 0).f2.length = 0 ∧ (aj l 0).f3.length = 0 ∧ (aj l 0).f6.length = 0 then
    some (a0, ⟨#[100, 101, 102, 97, 117, 108, 116]⟩, a2, (if a3 = 0 then 30 else a3), a4, [⟨(aj l 0).f0, (aj l 0).f1, [], [], (if (aj l 0).f4 = 0 then 100 else (aj l 0).f4), (if (aj l 0).f5 = 0 then 64 else (aj l 0).f5), []⟩])
  else none
theorem wE (a b : Int) : jE.f a b = some (if a = 0 then b else a) := by
  unfold jE.f
  split <;> rfl
theorem wF {a : ByteArray} (h : a.toList = []) : a = ⟨#[]⟩ := by
  have : a.data.toList = [] := by rw [← ByteArray.toList_eq a]; exact h
  cases a with
  | mk d =>
    congr
    exact Array.toList_inj.1 this
def bW.T9 : Bool × List (List Nat × List Nat) := (true, [([], []), ([], []), ([], []), ([2], [2]), ([3], [3]), ([4], [4]), ([5], [5]), ([], []), ([7], [7]), ([8], [8]), ([9], [9]), ([10, 6], [10]), ([0, 0, 2, 3, 4, 5, 6, 10, 11], [0]), ([12, 0, 2, 3, 4, 5, 6, 10, 11], [12]), ([13, 6, 11, 0, 2, 3, 4, 5, 6, 10, 11], [6, 13]), ([1, 0, 1, 2, 3, 4, 5, 6, 7, 8, 9, 10, 11, 12, 13, 14], [1]), ([15, 0, 1, 2, 3, 4, 5, 6, 7, 8, 9, 10, 11, 12, 13, 14], [15]), ([16, 11, 14, 0, 1, 2, 3, 4, 5, 6, 7, 8, 9, 10, 11, 12, 13, 14], [11, 16])])
def bW.B9 : List Nat := [0, 0, 0, 4, 12, 28, 60, 0, 128, 384, 896, 2044, 4093, 8189, 16381, 32767, 65535, 131071]
theorem bW.rE : gV .any (opsOf Tryz.f36 9) = bW.T9 := by kernel_rfl
theorem bW.ni : fQ bW.T9.2 bW.B9 = true := by kernel_rfl
def bW.T10 : Bool × List (List Nat × List Nat) := (true, [([], []), ([], []), ([], []), ([], []), ([3], [3]), ([4], [4]), ([5], [5]), ([6], [6]), ([], []), ([8], [8]), ([9], [9]), ([10], [10]), ([11, 7], [11]), ([], []), ([13], [13]), ([14], [14]), ([15], [15]), ([16, 12], [16]), ([0, 0, 3, 4, 5, 6, 7, 11, 12, 16, 17], [0]), ([18, 0, 3, 4, 5, 6, 7, 11, 12, 16, 17], [18]), ([19, 7, 17, 0, 3, 4, 5, 6, 7, 11, 12, 16, 17], [7, 19]), ([1, 0, 1, 3, 4, 5, 6, 7, 8, 9, 10, 11, 12, 16, 17, 18, 19, 20], [1]), ([21, 0, 1, 3, 4, 5, 6, 7, 8, 9, 10, 11, 12, 16, 17, 18, 19, 20], [21]), ([22, 12, 20, 0, 1, 3, 4, 5, 6, 7, 8, 9, 10, 11, 12, 16, 17, 18, 19, 20], [12, 22]), ([2, 0, 1, 2, 3, 4, 5, 6, 7, 8, 9, 10, 11, 12, 13, 14, 15, 16, 17, 18, 19, 20, 21, 22, 23], [2]), ([24, 0, 1, 2, 3, 4, 5, 6, 7, 8, 9, 10, 11, 12, 13, 14, 15, 16, 17, 18, 19, 20, 21, 22, 23], [24]), ([25, 17, 23, 0, 1, 2, 3, 4, 5, 6, 7, 8, 9, 10, 11, 12, 13, 14, 15, 16, 17, 18, 19, 20, 21, 22, 23], [17, 25])])
def bW.B10 : List Nat := [0, 0, 0, 0, 8, 24, 56, 120, 0, 256, 768, 1792, 4088, 0, 8192, 24576, 57344, 131064, 262137, 524281, 1048569, 2097147, 4194299, 8388603, 16777215, 33554431, 67108863]
theorem bW.wC : gV .any (opsOf Tryz.f36 10) = bW.T10 := by kernel_rfl
theorem bW.sH : fQ bW.T10.2 bW.B10 = true := by kernel_rfl
set_option maxHeartbeats 8000000 in
set_option maxRecDepth 100000 in
theorem bW.calls (a0 a1 : ByteArray) (a2 a3 : Int) (a4 : Bool) (A5 : Option Addr) (c5 : Nat) (l5 : List S69) (r1 r2 : ByteArray) (r3 r4 : Int) (r5 : Bool) (r6 : List S69) (w : World) (Bl : Kd.C k69 w A5 l5.length l5) (Bp : l5.length ≤ c5) (h : bW.f a0 a1 a2 a3 a4 l5 = some (r1, r2, r3, r4, r5, r6)) :
    Calls Tryz.prog 36 #[.agg #[.string a0, .string a1, .int .i64 a2, .int .i64 a3, .bool a4, .slice A5 l5.length c5]] w fun e w' => ∃ Bn : Value, e = .returned (.agg #[.string r1, .string r2, .int .i64 r3, .int .i64 r4, .bool r5, Bn]) ∧ Kd.V k69 69 w' w.heap.size (fun k_ => (w.heap.size ≤ k_)) Bn r6 ∧ Below w.heap.size w w' := by
  unfold bW.f at h
  split at h
  case isFalse => cases h
  rename_i hc
  obtain ⟨h1, h2, h3, h4, h6⟩ := hc
  obtain ⟨x, rfl⟩ : ∃ x, l5 = [x] := by
    cases l5 with
    | nil => cases h2
    | cons x l =>
      cases l with
      | nil => exact ⟨x, rfl⟩
      | cons _ _ => simp at h2
  have hx : aj [x] 0 = x := rfl
  rw [hx] at h h3 h4 h6
  obtain ⟨y3, hy3⟩ : ∃ y, y = (if a3 = 0 then 30 else a3) := ⟨_, rfl⟩
  obtain ⟨y4, hy4⟩ : ∃ y, y = (if x.f4 = 0 then 100 else x.f4) := ⟨_, rfl⟩
  obtain ⟨y5, Bj⟩ : ∃ y, y = (if x.f5 = 0 then 64 else x.f5) := ⟨_, rfl⟩
  rw [← hy3, ← hy4, ← Bj] at h
  simp only [Option.some.injEq, Prod.mk.injEq] at h
  obtain ⟨rfl, rfl, rfl, rfl, rfl, rfl⟩ := h
  obtain rfl := wF h1
  have O3 := Aside0.mk (show jE.f a3 30 = some y3 by rw [wE, hy3])
  have O4 := Aside0.mk (show jE.f x.f4 100 = some y4 by rw [wE, hy4])
  have O5 := Aside0.mk (show jE.f x.f5 64 = some y5 by rw [wE, Bj])
  clear h1 h2 hx hy3 hy4 Bj
  have E2 := Aside0.mk h3
  have E3 := Aside0.mk h4
  have E6 := Aside0.mk h6
  have HR := Aside0.mk Bl
  clear h3 h4 h6 Bl Bp
  have Bq := Tryz.underlying49
  have Br := Tryz.underlying69
  go_enter Tryz.func36, Tryz.ntmps36
  go_wp2_with (first
    | (go_at_call 49; refine (jE.calls a3 30 _ _ O3.out).mono ?_; rintro e w1 ⟨rfl, ⟨n1, rfl⟩⟩)
    | (go_at_call 50; refine (zq.calls A5 c5 x _ (Kd.bO HR.out (by repeat (first | exact Below.refl _ _ | apply bV | apply aW | apply bB | refine gQ ?_ (Nat.le_refl _))))).mono ?_; rintro e w4 ⟨v, rfl, hN, hb⟩; obtain ⟨g, cap, cur, A2, c2, A3, c3, A6, c6, rfl, hg, hcap, hh, htk, hsz⟩ := xR hN; have G0 := Aside0.mk ((hb.block w.heap.size (by simp; omega)).trans (show _ = some (Obj.cells #[.string a0, .string ⟨#[100, 101, 102, 97, 117, 108, 116]⟩, .int .i64 a2, .int .i64 y3, .bool a4, .slice A5 1 c5] 49 (0, 0)) from by refine bN (cs := #[.string a0, .string ⟨#[100, 101, 102, 97, 117, 108, 116]⟩, .int .i64 a2, .int .i64 a3, .bool a4, .slice A5 1 c5]) ?_ 3 _ rfl; apply ay; apply aD; exact heap_alloc_new w _)); have G1 := Aside0.mk ((hb.block (w.heap.size + 1) (by simp)).trans (show _ = some (Obj.cells #[.string ⟨#[]⟩, .string ⟨#[]⟩, .int .i64 0, .int .i64 0, .bool false, .slice none 0 0] 49 (0, 0)) from by refine bL ?_ (by simp) _; apply ay; have q := heap_alloc_new (w.alloc (Obj.cells #[.string a0, .string ⟨#[100, 101, 102, 97, 117, 108, 116]⟩, .int .i64 a2, .int .i64 a3, .bool a4, .slice A5 1 c5] 49)) (Obj.cells #[.string ⟨#[]⟩, .string ⟨#[]⟩, .int .i64 0, .int .i64 0, .bool false, .slice none 0 0] 49); simpa using q)); have GC := Aside0.mk hh; have GT := Aside0.mk htk; have GS := Aside0.mk hsz; have GH := Aside0.mk (show w.heap.size + 2 ≤ g by simpa using hg); have HB := Aside0.mk (aK (show Below w.heap.size w _ from by repeat (first | exact Below.refl _ _ | apply bV | apply aW | apply bB | refine gQ ?_ (Nat.le_refl _))) hb); have z5 : w4.cell? ⟨w.heap.size,5,none⟩ = some (.slice A5 1 c5) := (ah G0.out 5).trans rfl; have f5 := ak G0.out 5; clear hN hb hg hh htk hsz))
  go_loopg [20] 1 (fun kq v20 w' => ∃ i : Nat, v20 = .int .i64 (i : Int) ∧ Aside0 (i + kq = 1) ∧ ∃ cu : Array Value, Aside0 (Bun w w' #[.string a0, .string ⟨#[100, 101, 102, 97, 117, 108, 116]⟩, .int .i64 a2, .int .i64 y3, .bool a4, .slice (some ⟨g, 0, none⟩) 1 cap] g cu) ∧ Aside0 (i = 0 → Row7 x cu (.slice A2 x.f2.length c2) (.slice A3 x.f3.length c3) (.int .i64 x.f4) (.int .i64 x.f5) (.slice A6 x.f6.length c6)) ∧ Aside0 (i = 1 → ∃ B2 d2 B3 d3 B6 d6, Row7 x cu (.slice B2 0 d2) (.slice B3 0 d3) (.int .i64 y4) (.int .i64 y5) (.slice B6 0 d6)))
  case atStart =>
    refine ⟨0, rfl, ⟨by omega⟩, cur, ⟨?_, ?_, ?_, ?_, GH.out⟩, ⟨fun _ => Row7.of GT.out (by have := GS.out; omega)⟩, ⟨fun h => by cases h⟩⟩
    · refine bN (cs := #[.string a0, .string ⟨#[100, 101, 102, 97, 117, 108, 116]⟩, .int .i64 a2, .int .i64 y3, .bool a4, .slice A5 1 c5]) G0.out 5 _ rfl
    · exact bL G1.out (by simp) _
    · exact bL GC.out (by have := GH.out; simp; omega) _
    · exact gQ HB.out (Nat.le_refl _)
  case round =>
    clear G0 G1 GC GT GS HB z5 f5
    obtain ⟨i, rfl, hi, cu, HI, GT, GF⟩ := hrel
    have z5 : wr.cell? ⟨w.heap.size,5,none⟩ = some (.slice (some ⟨g, 0, none⟩) 1 cap) := (ah HI.out.p 5).trans rfl
    cases gk with
    | zero =>
      obtain rfl : i = 1 := by have := hi.out; omega
      obtain ⟨B2, d2, B3, d3, B6, d6, hR⟩ := GF.out rfl
      have HX := Aside0.mk hR
      clear GT GF hi hR
      have p0 : wr.cell? ⟨w.heap.size,0,none⟩ = some (.string a0) := (ah HI.out.p 0).trans rfl
      have p1 : wr.cell? ⟨w.heap.size,1,none⟩ = some (.string ⟨#[100, 101, 102, 97, 117, 108, 116]⟩) := (ah HI.out.p 1).trans rfl
      have p2 : wr.cell? ⟨w.heap.size,2,none⟩ = some (.int .i64 a2) := (ah HI.out.p 2).trans rfl
      have p3 : wr.cell? ⟨w.heap.size,3,none⟩ = some (.int .i64 y3) := (ah HI.out.p 3).trans rfl
      have p4 : wr.cell? ⟨w.heap.size,4,none⟩ = some (.bool a4) := (ah HI.out.p 4).trans rfl
      have r0 : wr.cell? ⟨w.heap.size + 1,0,none⟩ = some (.string ⟨#[]⟩) := (ah HI.out.z 0).trans rfl
      have r1 : wr.cell? ⟨w.heap.size + 1,1,none⟩ = some (.string ⟨#[]⟩) := (ah HI.out.z 1).trans rfl
      have r2 : wr.cell? ⟨w.heap.size + 1,2,none⟩ = some (.int .i64 0) := (ah HI.out.z 2).trans rfl
      have r3 : wr.cell? ⟨w.heap.size + 1,3,none⟩ = some (.int .i64 0) := (ah HI.out.z 3).trans rfl
      have r4 : wr.cell? ⟨w.heap.size + 1,4,none⟩ = some (.bool false) := (ah HI.out.z 4).trans rfl
      have r5 : wr.cell? ⟨w.heap.size + 1,5,none⟩ = some (.slice none 0 0) := (ah HI.out.z 5).trans rfl
      have s0 := ak HI.out.z 0
      have s1 := ak HI.out.z 1
      have s2 := ak HI.out.z 2
      have s3 := ak HI.out.z 3
      have s4 := ak HI.out.z 4
      have s5 := ak HI.out.z 5
      go_wp2
      have hgc := HI.out.c
      have hgl := HI.out.l
      refine bodyPost_ret (results_cell_row rfl _ _ (w.heap.size + 1) 49 #[.string a0, .string ⟨#[100, 101, 102, 97, 117, 108, 116]⟩, .int .i64 a2, .int .i64 y3, .bool a4, .slice (some ⟨g, 0, none⟩) 1 cap] (0, 0) _ rfl (by refine bN (cs := #[.string a0, .string ⟨#[100, 101, 102, 97, 117, 108, 116]⟩, .int .i64 a2, .int .i64 y3, .bool a4, .slice none 0 0]) ?_ 5 _ rfl; refine bN (cs := #[.string a0, .string ⟨#[100, 101, 102, 97, 117, 108, 116]⟩, .int .i64 a2, .int .i64 y3, .bool false, .slice none 0 0]) ?_ 4 _ rfl; refine bN (cs := #[.string a0, .string ⟨#[100, 101, 102, 97, 117, 108, 116]⟩, .int .i64 a2, .int .i64 0, .bool false, .slice none 0 0]) ?_ 3 _ rfl; refine bN (cs := #[.string a0, .string ⟨#[100, 101, 102, 97, 117, 108, 116]⟩, .int .i64 0, .int .i64 0, .bool false, .slice none 0 0]) ?_ 2 _ rfl; refine bN (cs := #[.string a0, .string ⟨#[]⟩, .int .i64 0, .int .i64 0, .bool false, .slice none 0 0]) ?_ 1 _ rfl; refine bN (cs := #[.string ⟨#[]⟩, .string ⟨#[]⟩, .int .i64 0, .int .i64 0, .bool false, .slice none 0 0]) ?_ 0 _ rfl; exact HI.out.z) Tryz.underlying49 rfl (by kernel_rfl)) rfl ?_
      have hne : g ≠ w.heap.size + 1 := by omega
      have hle : w.heap.size ≤ g := by omega
      have hl1 : w.heap.size ≤ w.heap.size + 1 := by omega
      refine ⟨_, rfl, zx ?_ hle hcap HX.out, ?_⟩
      · iterate 6 (refine bL ?_ hne _)
        exact hgc
      · iterate 6 (refine gQ ?_ hl1)
        exact HI.out.b
    | succ k1 =>
      obtain rfl : i = 0 := by have := hi.out; omega
      have hX := GT.out rfl
      have HX := Aside0.mk hX
      clear GF GT hX
      go_upto_region 9 with (fail)
      (try simp only [Act.put, List.setIfInBounds_toArray, List.set_cons_zero, List.set_cons_succ])
      refine fU (n := 18) (S := fun w' => Bun w w' #[.string a0, .string ⟨#[100, 101, 102, 97, 117, 108, 116]⟩, .int .i64 a2, .int .i64 y3, .bool a4, .slice (some ⟨g, 0, none⟩) 1 cap] g cu) (ds := [14, 17]) #[O,O,O,O,O,O,O,O,O,O,O,O,O,O,O,O,O,O] (by kernel_rfl) rfl rfl (HI.out.drew) (fun hHeld => ?_)
      refine dY bW.rE bW.ni (fun HT_ HW_ => ?_)
      replace HI := Aside0.mk HI.out.drew
      refine pu_ 0 27 #[I,O,O,O,O,O,O,O,O,O,O,O,O,O,O,O,O,O] HT_.out ?_
      refine pu_ 1 28 #[I,I,O,O,O,O,O,O,O,O,O,O,O,O,O,O,O,O] HT_.out ?_
      refine pu_ 2 29 #[I,I,I,O,O,O,O,O,O,O,O,O,O,O,O,O,O,O] HT_.out ?_
      refine pu_ 3 30 #[I,I,I,I,O,O,O,O,O,O,O,O,O,O,O,O,O,O] HT_.out ?_
      refine pu_ 4 31 #[I,I,I,I,I,O,O,O,O,O,O,O,O,O,O,O,O,O] HT_.out ?_
      refine pu_ 7 34 #[I,I,I,I,I,O,O,I,O,O,O,O,O,O,O,O,O,O] HT_.out ?_
      refine pu_ 8 35 #[I,I,I,I,I,O,O,I,I,O,O,O,O,O,O,O,O,O] HT_.out ?_
      refine pu_ 9 36 #[I,I,I,I,I,O,O,I,I,I,O,O,O,O,O,O,O,O] HT_.out ?_
      refine iG (i := 5) (N := some 32) (v := ?_) (a' := ?_) #[I,I,I,I,I,I,O,I,I,I,O,O,O,O,O,O,O,O] rfl rfl (fT HT_.out HW_.out (by kernel_rfl)) (fun _ _ _ h => h) (Or.inl ⟨by rfl, ?_⟩) hHeld ?_ ?_
      rotate_left
      · intro w' s0
        have e2 : w'.cell? ⟨g,2,none⟩ = some (.slice A2 x.f2.length c2) := (ah s0.c 2).trans HX.out.q2
        have e3 : w'.cell? ⟨g,3,none⟩ = some (.slice A3 x.f3.length c3) := (ah s0.c 3).trans HX.out.q3
        have e4 : w'.cell? ⟨g,4,none⟩ = some (.int .i64 x.f4) := (ah s0.c 4).trans HX.out.q4
        have e5 : w'.cell? ⟨g,5,none⟩ = some (.int .i64 x.f5) := (ah s0.c 5).trans HX.out.q5
        have e6 : w'.cell? ⟨g,6,none⟩ = some (.slice A6 x.f6.length c6) := (ah s0.c 6).trans HX.out.q6
        go_simp
        with_reducible rfl
      rotate_left
      · simp only [Act.put, List.setIfInBounds_toArray, List.set_cons_zero, List.set_cons_succ, bJ, bM]
        rfl
      refine iG (i := 10) (N := some 37) (v := ?_) (a' := ?_) #[I,I,I,I,I,I,O,I,I,I,I,O,O,O,O,O,O,O] rfl rfl (fT HT_.out HW_.out (by kernel_rfl)) (fun _ _ _ h => h) (Or.inl ⟨by rfl, ?_⟩) hHeld ?_ ?_
      rotate_left
      · intro w' s0
        have e2 : w'.cell? ⟨g,2,none⟩ = some (.slice A2 x.f2.length c2) := (ah s0.c 2).trans HX.out.q2
        have e3 : w'.cell? ⟨g,3,none⟩ = some (.slice A3 x.f3.length c3) := (ah s0.c 3).trans HX.out.q3
        have e4 : w'.cell? ⟨g,4,none⟩ = some (.int .i64 x.f4) := (ah s0.c 4).trans HX.out.q4
        have e5 : w'.cell? ⟨g,5,none⟩ = some (.int .i64 x.f5) := (ah s0.c 5).trans HX.out.q5
        have e6 : w'.cell? ⟨g,6,none⟩ = some (.slice A6 x.f6.length c6) := (ah s0.c 6).trans HX.out.q6
        go_simp
        with_reducible rfl
      rotate_left
      · simp only [Act.put, List.setIfInBounds_toArray, List.set_cons_zero, List.set_cons_succ, bJ, bM]
        rfl
      refine gq (i := 6) (N := some 33) #[I,I,I,I,I,I,I,I,I,I,I,O,O,O,O,O,O,O] rfl rfl (dD HT_.out (by kernel_rfl)) (by decide) (fun K hK => ?_)
      refine eX Tryz.func49 (by kernel_rfl) rfl #[.int .i64 x.f4, .int .i64 100] (by rfl) rfl rfl (by (try simp only [List.map_toArray, List.map_cons, List.map_nil]); first | done | rfl) ?_
      refine (jE.calls x.f4 100 y4 _ O4.out).mono ?_
      rintro e w5 ⟨rfl, hd⟩
      refine ⟨_, rfl, ?_⟩
      replace HI := Aside0.mk (HI.out.drawn hd)
      clear hd
      refine hK.out _ _ (HI.out) (fun hHeld => ?_)
      clear hK K
      refine dW (a' := ?_) ?_ ?_
      rotate_left
      · show Act.put _ (some 33) _ = _
        simp only [Act.put, List.setIfInBounds_toArray, List.set_cons_zero, List.set_cons_succ, bJ, bM]
        rfl
      refine gq (i := 11) (N := some 38) #[I,I,I,I,I,I,I,I,I,I,I,I,O,O,O,O,O,O] rfl rfl (dD HT_.out (by kernel_rfl)) (by decide) (fun K hK => ?_)
      refine eX Tryz.func49 (by kernel_rfl) rfl #[.int .i64 x.f5, .int .i64 64] (by rfl) rfl rfl (by (try simp only [List.map_toArray, List.map_cons, List.map_nil]); first | done | rfl) ?_
      refine (jE.calls x.f5 64 y5 _ O5.out).mono ?_
      rintro e w6 ⟨rfl, hd⟩
      refine ⟨_, rfl, ?_⟩
      replace HI := Aside0.mk (HI.out.drawn hd)
      clear hd
      refine hK.out _ _ (HI.out) (fun hHeld => ?_)
      clear hK K
      refine dW (a' := ?_) ?_ ?_
      rotate_left
      · show Act.put _ (some 38) _ = _
        simp only [Act.put, List.setIfInBounds_toArray, List.set_cons_zero, List.set_cons_succ, bJ, bM]
        rfl
      refine pu_ 12 39 #[I,I,I,I,I,I,I,I,I,I,I,I,I,O,O,O,O,O] HT_.out ?_
      refine pu_ 13 40 #[I,I,I,I,I,I,I,I,I,I,I,I,I,I,O,O,O,O] HT_.out ?_
      refine jT (i := 14) (N := none) #[I,I,I,I,I,I,I,I,I,I,I,I,I,I,I,O,O,O] rfl rfl (dD HT_.out (by kernel_rfl)) (by decide) (fun K hK => ?_)
      have z := (ah HI.out.c 4).trans HX.out.q4
      have f := ak HI.out.c 4
      refine l8 (w1 := ?_) (by rfl) rfl ?_ ?_
      rotate_left
      · go_simp
        rfl
      clear z f
      have HI1 := Aside0.mk (HI.out.set 4 (.int .i64 y4))
      have Bg := Aside0.mk (HX.out.AP (.int .i64 y4))
      clear HI HX
      refine hK.out _ _ ?_
      clear hK K
      refine pu_ 15 41 #[I,I,I,I,I,I,I,I,I,I,I,I,I,I,I,I,O,O] HT_.out ?_
      refine pu_ 16 42 #[I,I,I,I,I,I,I,I,I,I,I,I,I,I,I,I,I,O] HT_.out ?_
      refine jT (i := 17) (N := none) #[I,I,I,I,I,I,I,I,I,I,I,I,I,I,I,I,I,I] rfl rfl (dD HT_.out (by kernel_rfl)) (by decide) (fun K hK => ?_)
      have z := (ah HI1.out.c 5).trans Bg.out.q5
      have f := ak HI1.out.c 5
      refine l8 (w1 := ?_) (by rfl) rfl ?_ ?_
      rotate_left
      · go_simp
        rfl
      clear z f
      have HI2 := Aside0.mk (HI1.out.set 5 (.int .i64 y5))
      have Bh := Aside0.mk (Bg.out.AQ (.int .i64 y5))
      clear HI1 Bg
      refine hK.out _ _ ?_
      clear hK K
      refine gP (fF HT_.out (by kernel_rfl)) ?_
      obtain ⟨cv, hcv⟩ : ∃ cv, (cu.setIfInBounds 4 (.int .i64 y4)).setIfInBounds 5 (.int .i64 y5) = cv := ⟨_, rfl⟩
      rw [hcv] at HI2 Bh
      clear hcv
      have HI := HI2
      have HX := Bh
      clear HI2 Bh
      go_upto_region 10 with (fail)
      (try simp only [Act.put, List.setIfInBounds_toArray, List.set_cons_zero, List.set_cons_succ])
      refine fU (n := 27) (S := fun w' => Bun w w' #[.string a0, .string ⟨#[100, 101, 102, 97, 117, 108, 116]⟩, .int .i64 a2, .int .i64 y3, .bool a4, .slice (some ⟨g, 0, none⟩) 1 cap] g cv) (ds := [20, 23, 26]) #[O,O,O,O,O,O,O,O,O,O,O,O,O,O,O,O,O,O,O,O,O,O,O,O,O,O,O] (by kernel_rfl) rfl rfl (HI.out.drew) (fun hHeld => ?_)
      refine dY bW.wC bW.sH (fun HT_ HW_ => ?_)
      replace HI := Aside0.mk HI.out.drew
      refine pu_ 0 43 #[I,O,O,O,O,O,O,O,O,O,O,O,O,O,O,O,O,O,O,O,O,O,O,O,O,O,O] HT_.out ?_
      refine pu_ 1 44 #[I,I,O,O,O,O,O,O,O,O,O,O,O,O,O,O,O,O,O,O,O,O,O,O,O,O,O] HT_.out ?_
      refine pu_ 2 45 #[I,I,I,O,O,O,O,O,O,O,O,O,O,O,O,O,O,O,O,O,O,O,O,O,O,O,O] HT_.out ?_
      refine pu_ 3 46 #[I,I,I,I,O,O,O,O,O,O,O,O,O,O,O,O,O,O,O,O,O,O,O,O,O,O,O] HT_.out ?_
      refine pu_ 4 47 #[I,I,I,I,I,O,O,O,O,O,O,O,O,O,O,O,O,O,O,O,O,O,O,O,O,O,O] HT_.out ?_
      refine pu_ 5 48 #[I,I,I,I,I,I,O,O,O,O,O,O,O,O,O,O,O,O,O,O,O,O,O,O,O,O,O] HT_.out ?_
      refine pu_ 8 51 #[I,I,I,I,I,I,O,O,I,O,O,O,O,O,O,O,O,O,O,O,O,O,O,O,O,O,O] HT_.out ?_
      refine pu_ 9 52 #[I,I,I,I,I,I,O,O,I,I,O,O,O,O,O,O,O,O,O,O,O,O,O,O,O,O,O] HT_.out ?_
      refine pu_ 10 53 #[I,I,I,I,I,I,O,O,I,I,I,O,O,O,O,O,O,O,O,O,O,O,O,O,O,O,O] HT_.out ?_
      refine pu_ 13 56 #[I,I,I,I,I,I,O,O,I,I,I,O,O,I,O,O,O,O,O,O,O,O,O,O,O,O,O] HT_.out ?_
      refine pu_ 14 57 #[I,I,I,I,I,I,O,O,I,I,I,O,O,I,I,O,O,O,O,O,O,O,O,O,O,O,O] HT_.out ?_
      refine pu_ 15 58 #[I,I,I,I,I,I,O,O,I,I,I,O,O,I,I,I,O,O,O,O,O,O,O,O,O,O,O] HT_.out ?_
      refine iG (i := 6) (N := some 49) (v := ?_) (a' := ?_) #[I,I,I,I,I,I,I,O,I,I,I,O,O,I,I,I,O,O,O,O,O,O,O,O,O,O,O] rfl rfl (fT HT_.out HW_.out (by kernel_rfl)) (fun _ _ _ h => h) (Or.inl ⟨by rfl, ?_⟩) hHeld ?_ ?_
      rotate_left
      · intro w' s0
        have e2 : w'.cell? ⟨g,2,none⟩ = some (.slice A2 x.f2.length c2) := (ah s0.c 2).trans HX.out.q2
        have e3 : w'.cell? ⟨g,3,none⟩ = some (.slice A3 x.f3.length c3) := (ah s0.c 3).trans HX.out.q3
        have e4 : w'.cell? ⟨g,4,none⟩ = some (.int .i64 y4) := (ah s0.c 4).trans HX.out.q4
        have e5 : w'.cell? ⟨g,5,none⟩ = some (.int .i64 y5) := (ah s0.c 5).trans HX.out.q5
        have e6 : w'.cell? ⟨g,6,none⟩ = some (.slice A6 x.f6.length c6) := (ah s0.c 6).trans HX.out.q6
        go_simp
        with_reducible rfl
      rotate_left
      · simp only [Act.put, List.setIfInBounds_toArray, List.set_cons_zero, List.set_cons_succ, bJ, bM]
        rfl
      refine iG (i := 11) (N := some 54) (v := ?_) (a' := ?_) #[I,I,I,I,I,I,I,O,I,I,I,I,O,I,I,I,O,O,O,O,O,O,O,O,O,O,O] rfl rfl (fT HT_.out HW_.out (by kernel_rfl)) (fun _ _ _ h => h) (Or.inl ⟨by rfl, ?_⟩) hHeld ?_ ?_
      rotate_left
      · intro w' s0
        have e2 : w'.cell? ⟨g,2,none⟩ = some (.slice A2 x.f2.length c2) := (ah s0.c 2).trans HX.out.q2
        have e3 : w'.cell? ⟨g,3,none⟩ = some (.slice A3 x.f3.length c3) := (ah s0.c 3).trans HX.out.q3
        have e4 : w'.cell? ⟨g,4,none⟩ = some (.int .i64 y4) := (ah s0.c 4).trans HX.out.q4
        have e5 : w'.cell? ⟨g,5,none⟩ = some (.int .i64 y5) := (ah s0.c 5).trans HX.out.q5
        have e6 : w'.cell? ⟨g,6,none⟩ = some (.slice A6 x.f6.length c6) := (ah s0.c 6).trans HX.out.q6
        go_simp
        with_reducible rfl
      rotate_left
      · simp only [Act.put, List.setIfInBounds_toArray, List.set_cons_zero, List.set_cons_succ, bJ, bM]
        rfl
      refine iG (i := 16) (N := some 59) (v := ?_) (a' := ?_) #[I,I,I,I,I,I,I,O,I,I,I,I,O,I,I,I,I,O,O,O,O,O,O,O,O,O,O] rfl rfl (fT HT_.out HW_.out (by kernel_rfl)) (fun _ _ _ h => h) (Or.inl ⟨by rfl, ?_⟩) hHeld ?_ ?_
      rotate_left
      · intro w' s0
        have e2 : w'.cell? ⟨g,2,none⟩ = some (.slice A2 x.f2.length c2) := (ah s0.c 2).trans HX.out.q2
        have e3 : w'.cell? ⟨g,3,none⟩ = some (.slice A3 x.f3.length c3) := (ah s0.c 3).trans HX.out.q3
        have e4 : w'.cell? ⟨g,4,none⟩ = some (.int .i64 y4) := (ah s0.c 4).trans HX.out.q4
        have e5 : w'.cell? ⟨g,5,none⟩ = some (.int .i64 y5) := (ah s0.c 5).trans HX.out.q5
        have e6 : w'.cell? ⟨g,6,none⟩ = some (.slice A6 x.f6.length c6) := (ah s0.c 6).trans HX.out.q6
        go_simp
        with_reducible rfl
      rotate_left
      · simp only [Act.put, List.setIfInBounds_toArray, List.set_cons_zero, List.set_cons_succ, bJ, bM]
        rfl
      refine gq (i := 7) (N := some 50) #[I,I,I,I,I,I,I,I,I,I,I,I,O,I,I,I,I,O,O,O,O,O,O,O,O,O,O] rfl rfl (dD HT_.out (by kernel_rfl)) (by decide) (fun K hK => ?_)
      refine eX Tryz.func51 (by kernel_rfl) rfl #[.slice A2 x.f2.length c2] (by rfl) rfl rfl (by (try simp only [List.map_toArray, List.map_cons, List.map_nil]); first | done | rfl) ?_
      refine (xS.calls A2 c2 x.f2.length _ E2.out).mono ?_
      rintro e w9 ⟨B2, d2, rfl, hb⟩
      refine ⟨_, rfl, ?_⟩
      replace HI := Aside0.mk (HI.out.below hb)
      clear hb
      refine hK.out _ _ (HI.out) (fun hHeld => ?_)
      clear hK K
      refine dW (a' := ?_) ?_ ?_
      rotate_left
      · show Act.put _ (some 50) _ = _
        simp only [Act.put, List.setIfInBounds_toArray, List.set_cons_zero, List.set_cons_succ, bJ, bM]
        rfl
      refine gq (i := 12) (N := some 55) #[I,I,I,I,I,I,I,I,I,I,I,I,I,I,I,I,I,O,O,O,O,O,O,O,O,O,O] rfl rfl (dD HT_.out (by kernel_rfl)) (by decide) (fun K hK => ?_)
      refine eX Tryz.func52 (by kernel_rfl) rfl #[.slice A3 x.f3.length c3] (by rfl) rfl rfl (by (try simp only [List.map_toArray, List.map_cons, List.map_nil]); first | done | rfl) ?_
      refine (xU.calls A3 c3 x.f3.length _ E3.out).mono ?_
      rintro e Bu ⟨B3, d3, rfl, hb⟩
      refine ⟨_, rfl, ?_⟩
      replace HI := Aside0.mk (HI.out.below hb)
      clear hb
      refine hK.out _ _ (HI.out) (fun hHeld => ?_)
      clear hK K
      refine dW (a' := ?_) ?_ ?_
      rotate_left
      · show Act.put _ (some 55) _ = _
        simp only [Act.put, List.setIfInBounds_toArray, List.set_cons_zero, List.set_cons_succ, bJ, bM]
        rfl
      refine gq (i := 17) (N := some 60) #[I,I,I,I,I,I,I,I,I,I,I,I,I,I,I,I,I,I,O,O,O,O,O,O,O,O,O] rfl rfl (dD HT_.out (by kernel_rfl)) (by decide) (fun K hK => ?_)
      refine eX Tryz.func53 (by kernel_rfl) rfl #[.slice A6 x.f6.length c6] (by rfl) rfl rfl (by (try simp only [List.map_toArray, List.map_cons, List.map_nil]); first | done | rfl) ?_
      refine (xV.calls A6 c6 x.f6.length _ E6.out).mono ?_
      rintro e Bv ⟨B6, d6, rfl, hb⟩
      refine ⟨_, rfl, ?_⟩
      replace HI := Aside0.mk (HI.out.below hb)
      clear hb
      refine hK.out _ _ (HI.out) (fun hHeld => ?_)
      clear hK K
      refine dW (a' := ?_) ?_ ?_
      rotate_left
      · show Act.put _ (some 60) _ = _
        simp only [Act.put, List.setIfInBounds_toArray, List.set_cons_zero, List.set_cons_succ, bJ, bM]
        rfl
      refine pu_ 18 61 #[I,I,I,I,I,I,I,I,I,I,I,I,I,I,I,I,I,I,I,O,O,O,O,O,O,O,O] HT_.out ?_
      refine pu_ 19 62 #[I,I,I,I,I,I,I,I,I,I,I,I,I,I,I,I,I,I,I,I,O,O,O,O,O,O,O] HT_.out ?_
      refine jT (i := 20) (N := none) #[I,I,I,I,I,I,I,I,I,I,I,I,I,I,I,I,I,I,I,I,I,O,O,O,O,O,O] rfl rfl (dD HT_.out (by kernel_rfl)) (by decide) (fun K hK => ?_)
      have z := (ah HI.out.c 2).trans HX.out.q2
      have f := ak HI.out.c 2
      refine l8 (w1 := ?_) (by rfl) rfl ?_ ?_
      rotate_left
      · go_simp
        rfl
      clear z f
      have HI1 := Aside0.mk (HI.out.set 2 (.slice B2 0 d2))
      have Bg := Aside0.mk (HX.out.set2 (.slice B2 0 d2))
      clear HI HX
      refine hK.out _ _ ?_
      clear hK K
      refine pu_ 21 63 #[I,I,I,I,I,I,I,I,I,I,I,I,I,I,I,I,I,I,I,I,I,I,O,O,O,O,O] HT_.out ?_
      refine pu_ 22 64 #[I,I,I,I,I,I,I,I,I,I,I,I,I,I,I,I,I,I,I,I,I,I,I,O,O,O,O] HT_.out ?_
      refine jT (i := 23) (N := none) #[I,I,I,I,I,I,I,I,I,I,I,I,I,I,I,I,I,I,I,I,I,I,I,I,O,O,O] rfl rfl (dD HT_.out (by kernel_rfl)) (by decide) (fun K hK => ?_)
      have z := (ah HI1.out.c 3).trans Bg.out.q3
      have f := ak HI1.out.c 3
      refine l8 (w1 := ?_) (by rfl) rfl ?_ ?_
      rotate_left
      · go_simp
        rfl
      clear z f
      have HI2 := Aside0.mk (HI1.out.set 3 (.slice B3 0 d3))
      have Bh := Aside0.mk (Bg.out.AO (.slice B3 0 d3))
      clear HI1 Bg
      refine hK.out _ _ ?_
      clear hK K
      refine pu_ 24 65 #[I,I,I,I,I,I,I,I,I,I,I,I,I,I,I,I,I,I,I,I,I,I,I,I,I,O,O] HT_.out ?_
      refine pu_ 25 66 #[I,I,I,I,I,I,I,I,I,I,I,I,I,I,I,I,I,I,I,I,I,I,I,I,I,I,O] HT_.out ?_
      refine jT (i := 26) (N := none) #[I,I,I,I,I,I,I,I,I,I,I,I,I,I,I,I,I,I,I,I,I,I,I,I,I,I,I] rfl rfl (dD HT_.out (by kernel_rfl)) (by decide) (fun K hK => ?_)
      have z := (ah HI2.out.c 6).trans Bh.out.q6
      have f := ak HI2.out.c 6
      refine l8 (w1 := ?_) (by rfl) rfl ?_ ?_
      rotate_left
      · go_simp
        rfl
      clear z f
      have HI3 := Aside0.mk (HI2.out.set 6 (.slice B6 0 d6))
      have Bt := Aside0.mk (Bh.out.AU (.slice B6 0 d6))
      clear HI2 Bh
      refine hK.out _ _ ?_
      clear hK K
      refine gP (fF HT_.out (by kernel_rfl)) ?_
      go_wp2
      go_roundg k1
      case measure => exact Nat.lt_succ_self k1
      case rel =>
        refine ⟨1, by first | rfl | (simp; done), ⟨by have := hi.out; omega⟩, _, ⟨HI3.out⟩, ⟨fun h => by cases h⟩, ⟨fun _ => ⟨B2, d2, B3, d3, B6, d6, Bt.out⟩⟩⟩
end Go.Proofs.YtpflenjhmeaeoaaGreatDoor.GUt
