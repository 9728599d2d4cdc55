/- spec.Pod.Default of a pod of one container without lists: its contract, in terms of plain functions. No conditions beside those stated. -/
import Derived.Test.YtpncpefppifgdaaGreatDoorCp
import Derived.Test.YtpncpefppifgdaaGreatDoorGUtx8
import Derived.Laws.Cover3
namespace Go.Proofs.YtpncpefppifgdaaGreatDoor.GUt
open Go.RowKit Go.Proofs.YtpncpefppifgdaaGreatDoorW.PrintWords Go.Proofs.YtpncpefppifgdaaGreatDoorW.PrintLast Go.Proofs.YtpncpefppifgdaaGreatDoorW.PrintMore
set_option linter.unusedVariables false
set_option linter.unusedSimpArgs false
theorem Au : (Tryz.prog.info? 84).map (fun i => (i.zero, i.size, i.bytes)) = some (some (.agg #[.string ⟨#[]⟩, .string ⟨#[]⟩, .slice none 0 0, .slice none 0 0, .int .i64 0, .int .i64 0, .slice none 0 0]), 7, 120) := by kernel_rfl
theorem zD : Kd.Heap k84 := by
  first
  | exact Kd.jv _ (Kd.eO Kd.fG (Kd.eO Kd.fG (Kd.eO (Kd.iW _ Kd.fG) (Kd.eO (Kd.iW _ (Kd.jv _ (Kd.eO (Kd.iN _) (Kd.iN _)))) (Kd.eO (Kd.iN _) (Kd.eO (Kd.iN _) (Kd.iW _ (Kd.jv _ (Kd.eO Kd.fG Kd.fG)))))))))
theorem xQ {w : World} {base : Nat} {ok : Nat → Prop} {v : Value} {x : S84} (h : Kd.N k84 84 w base ok v [x]) :
    ∃ g cap cur A2 c2 A3 c3 A6 c6, v = .slice (some ⟨g, 0, none⟩) 1 cap ∧ base ≤ g ∧ 1 ≤ cap ∧ w.heap[g]? = some (.cells cur 84 (0, 0)) ∧ cur.toList.take 7 = [.string x.f0, .string x.f1, .slice A2 x.f2.length c2, .slice A3 x.f3.length c3, .int .i64 x.f4, .int .i64 x.f5, .slice A6 x.f6.length c6] ∧ cur.size = cap * 7 := by
  obtain ⟨_, rows, hl, ⟨_, inner, ho, hr⟩, hf⟩ := h
  obtain ⟨c, rfl⟩ : ∃ c, rows = [c] := by
    cases rows with
    | nil => cases hl
    | cons c l =>
      cases l with
      | nil => exact ⟨c, rfl⟩
      | cons _ _ => simp at hl
  obtain ⟨A2, c2, A3, c3, A6, c6, hc, _⟩ := j6 (hf 0 x c rfl rfl)
  have hin := (hr.2 0 c rfl).1
  have hlen : inner.length = 7 := by have := hr.1; simp [Kd.raw] at this; exact this.trans rfl
  have hin' : inner = c := by
    rw [← hin]
    simp only [Nat.zero_mul, List.drop_zero]
    exact (List.take_of_length_le (by rw [hlen]; exact Nat.le_refl 7)).symm
  rcases ho.2 with ⟨_, h0⟩ | ⟨g, cap, cur, rfl, hg, hh, hn, _, hs, ht⟩
  · cases h0
  · exact ⟨g, cap, cur, A2, c2, A3, c3, A6, c6, rfl, hg, hn, hh, (ht.trans hin').trans hc, hs⟩
set_option maxHeartbeats 4000000 in
set_option maxRecDepth 100000 in
theorem zF.calls (A0 : Option Addr) (c0 : Nat) (x : S84) (w : World) (hr : Kd.C k84 w A0 1 [x]) :
    Calls Tryz.prog 98 #[.slice A0 1 c0] w fun e w' => ∃ v, e = .returned v ∧ Kd.N k84 84 w' w.heap.size (fun k_ => True) v [x] ∧ Below w.heap.size w w' := by
  obtain ⟨ad, rfl, _⟩ := hr.2.2 (by decide)
  have HF := Aside0.mk (Kd.C_F zD hr)
  clear hr
  have heq : (binOp .eql 75 (.slice (some ad) 1 c0) (.slice none 0 0)).run Tryz.prog w = .ok (.bool false) w := by
    simp only [binOp]
    simp [run_equal_slice_nil w 75 84 (some ad) 1 c0 Tryz.underlying75]
  go_enter Tryz.func98, Tryz.ntmps98
  go_wp2_with (first
    | ((with_reducible refine bN (N := 5) rfl ?_); refine Kd.lX k84 (w0 := w) w.heap.size 84 rfl rfl (xs := []) (inner := []) (ok := fun _ => True) (okp := fun _ => False) (by first | (go_simp; done) | (go_simp; rfl)) ⟨rfl, fun j y hy => by simp at hy⟩ (fun _ hk => trivial) trivial (Below.refl _ _) (Nat.le_refl _) (by simp) ?_; intro v1 w1 hn hb hg hat; have HN := Aside0.mk hn; have HB1 := Aside0.mk hb; have HA1 := Aside0.mk hat; have BJ := Aside0.mk (Kd.Af HF.out hb); clear hn hb hg hat)
    | (at_builtin; refine Kd.gq k84 (w0 := w) w.heap.size rfl (.tmp 5) (.tmp 6) 75 84 _ _ rfl Tryz.underlying75 Au rfl (by decide) (by omega) v1 [] [x] (some ad) 1 c0 (fun _ => True) (fun k_ => k_ < w.heap.size ∧ k_ < w.heap.size) rfl rfl HN.out BJ.out (fun k_ hk => ⟨trivial, fun e => by obtain ⟨b, hb, hle⟩ := HA1.out; rw [hb] at e; injection e with e; have := hk.2; omega⟩) (fun k_ hk => trivial) HB1.out HB1.out.size (by simp) ?_; intro v2 w2 hn2 hb2 hg2 Bw; have Bz := Aside0.mk hn2; have HB2 := Aside0.mk hb2; clear hn2 hb2 hg2 Bw))
  go_ret
  exact ⟨_, rfl, Bz.out, HB2.out⟩
theorem infoSt : (Tryz.prog.info? 9).map (fun i => (i.zero, i.size, i.bytes)) = some (some (.string ⟨#[]⟩), 1, 16) := by kernel_rfl
theorem xR : (Tryz.prog.info? 126).map (fun i => (i.zero, i.size, i.bytes)) = some (some (.agg #[.int .i64 0, .int .i64 0]), 2, 16) := by kernel_rfl
theorem xS : (Tryz.prog.info? 127).map (fun i => (i.zero, i.size, i.bytes)) = some (some (.agg #[.string ⟨#[]⟩, .string ⟨#[]⟩]), 2, 32) := by kernel_rfl
set_option maxHeartbeats 4000000 in
set_option maxRecDepth 100000 in
theorem xU.calls (A0 : Option Addr) (c0 n : Nat) (w : World) (hn : n = 0) :
    Calls Tryz.prog 99 #[.slice A0 n c0] w fun e w' => ∃ A c, e = .returned (.slice A 0 c) ∧ Below w.heap.size w w' := by
  subst hn
  go_enter Tryz.func99, Tryz.ntmps99
  cases A0 with
  | none =>
    have heq : (binOp .eql 80 (.slice none 0 c0) (.slice none 0 0)).run Tryz.prog w = .ok (.bool true) w := by
      simp only [binOp]
      simp [run_equal_slice_nil w 80 9 none 0 c0 Tryz.underlying80]
    go_wp2
    go_ret
    exact ⟨none, 0, rfl, Below.refl _ _⟩
  | some ad =>
    have heq : (binOp .eql 80 (.slice (some ad) 0 c0) (.slice none 0 0)).run Tryz.prog w = .ok (.bool false) w := by
      simp only [binOp]
      simp [run_equal_slice_nil w 80 9 (some ad) 0 c0 Tryz.underlying80]
    have HF : ∀ W : World, Kd.F Kd.string W (fun _ => False) (some ad) 0 [] := fun W W' _ => ⟨rfl, by decide, fun h => absurd h (by decide)⟩
    go_wp2_with (first
      | ((with_reducible refine bN (N := 5) rfl ?_); refine Kd.lX Kd.string (w0 := w) w.heap.size 9 rfl rfl (xs := []) (inner := []) (ok := fun _ => True) (okp := fun _ => False) (by first | (go_simp; done) | (go_simp; rfl)) ⟨rfl, fun j y hy => by simp at hy⟩ (fun _ hk => trivial) trivial (Below.refl _ _) (Nat.le_refl _) (by simp) ?_; intro v1 w1 hn hb hg hat; have HN := Aside0.mk hn; have HB1 := Aside0.mk hb; clear hn hb hg hat)
      | (at_builtin; refine Kd.gq Kd.string (w0 := w) w.heap.size rfl (.tmp 5) (.tmp 6) 80 9 _ _ rfl Tryz.underlying80 infoSt rfl (by decide) (by omega) v1 [] [] (some ad) 0 c0 (fun _ => True) (fun _ => False) rfl rfl HN.out (HF _) (fun k_ hk => hk.elim) (fun k_ hk => trivial) HB1.out HB1.out.size (by simp) ?_; intro v2 w2 hn2 hb2 hg2 Bw; have Bz := Aside0.mk hn2; have HB2 := Aside0.mk hb2; clear hn2 hb2 hg2 Bw))
    go_ret
    obtain ⟨A, c, e⟩ := Kd.gI (base := 0) (Kd.N_V (base' := 0) Bz.out)
    exact ⟨A, c, by rw [e]; rfl, HB2.out⟩
set_option maxHeartbeats 4000000 in
set_option maxRecDepth 100000 in
theorem xV.calls (A0 : Option Addr) (c0 n : Nat) (w : World) (hn : n = 0) :
    Calls Tryz.prog 100 #[.slice A0 n c0] w fun e w' => ∃ A c, e = .returned (.slice A 0 c) ∧ Below w.heap.size w w' := by
  subst hn
  go_enter Tryz.func100, Tryz.ntmps100
  cases A0 with
  | none =>
    have heq : (binOp .eql 81 (.slice none 0 c0) (.slice none 0 0)).run Tryz.prog w = .ok (.bool true) w := by
      simp only [binOp]
      simp [run_equal_slice_nil w 81 126 none 0 c0 Tryz.underlying81]
    go_wp2
    go_ret
    exact ⟨none, 0, rfl, Below.refl _ _⟩
  | some ad =>
    have heq : (binOp .eql 81 (.slice (some ad) 0 c0) (.slice none 0 0)).run Tryz.prog w = .ok (.bool false) w := by
      simp only [binOp]
      simp [run_equal_slice_nil w 81 126 (some ad) 0 c0 Tryz.underlying81]
    have HF : ∀ W : World, Kd.F jG W (fun _ => False) (some ad) 0 [] := fun W W' _ => ⟨rfl, by decide, fun h => absurd h (by decide)⟩
    go_wp2_with (first
      | ((with_reducible refine bN (N := 5) rfl ?_); refine Kd.lX jG (w0 := w) w.heap.size 126 rfl rfl (xs := []) (inner := []) (ok := fun _ => True) (okp := fun _ => False) (by first | (go_simp; done) | (go_simp; rfl)) ⟨rfl, fun j y hy => by simp at hy⟩ (fun _ hk => trivial) trivial (Below.refl _ _) (Nat.le_refl _) (by simp) ?_; intro v1 w1 hn hb hg hat; have HN := Aside0.mk hn; have HB1 := Aside0.mk hb; clear hn hb hg hat)
      | (at_builtin; refine Kd.gq jG (w0 := w) w.heap.size rfl (.tmp 5) (.tmp 6) 81 126 _ _ rfl Tryz.underlying81 xR rfl (by decide) (by omega) v1 [] [] (some ad) 0 c0 (fun _ => True) (fun _ => False) rfl rfl HN.out (HF _) (fun k_ hk => hk.elim) (fun k_ hk => trivial) HB1.out HB1.out.size (by simp) ?_; intro v2 w2 hn2 hb2 hg2 Bw; have Bz := Aside0.mk hn2; have HB2 := Aside0.mk hb2; clear hn2 hb2 hg2 Bw))
    go_ret
    obtain ⟨A, c, e⟩ := Kd.gI (base := 0) (Kd.N_V (base' := 0) Bz.out)
    exact ⟨A, c, by rw [e]; rfl, HB2.out⟩
set_option maxHeartbeats 4000000 in
set_option maxRecDepth 100000 in
theorem xW.calls (A0 : Option Addr) (c0 n : Nat) (w : World) (hn : n = 0) :
    Calls Tryz.prog 101 #[.slice A0 n c0] w fun e w' => ∃ A c, e = .returned (.slice A 0 c) ∧ Below w.heap.size w w' := by
  subst hn
  go_enter Tryz.func101, Tryz.ntmps101
  cases A0 with
  | none =>
    have heq : (binOp .eql 82 (.slice none 0 c0) (.slice none 0 0)).run Tryz.prog w = .ok (.bool true) w := by
      simp only [binOp]
      simp [run_equal_slice_nil w 82 127 none 0 c0 Tryz.underlying82]
    go_wp2
    go_ret
    exact ⟨none, 0, rfl, Below.refl _ _⟩
  | some ad =>
    have heq : (binOp .eql 82 (.slice (some ad) 0 c0) (.slice none 0 0)).run Tryz.prog w = .ok (.bool false) w := by
      simp only [binOp]
      simp [run_equal_slice_nil w 82 127 (some ad) 0 c0 Tryz.underlying82]
    have HF : ∀ W : World, Kd.F jH W (fun _ => False) (some ad) 0 [] := fun W W' _ => ⟨rfl, by decide, fun h => absurd h (by decide)⟩
    go_wp2_with (first
      | ((with_reducible refine bN (N := 5) rfl ?_); refine Kd.lX jH (w0 := w) w.heap.size 127 rfl rfl (xs := []) (inner := []) (ok := fun _ => True) (okp := fun _ => False) (by first | (go_simp; done) | (go_simp; rfl)) ⟨rfl, fun j y hy => by simp at hy⟩ (fun _ hk => trivial) trivial (Below.refl _ _) (Nat.le_refl _) (by simp) ?_; intro v1 w1 hn hb hg hat; have HN := Aside0.mk hn; have HB1 := Aside0.mk hb; clear hn hb hg hat)
      | (at_builtin; refine Kd.gq jH (w0 := w) w.heap.size rfl (.tmp 5) (.tmp 6) 82 127 _ _ rfl Tryz.underlying82 xS rfl (by decide) (by omega) v1 [] [] (some ad) 0 c0 (fun _ => True) (fun _ => False) rfl rfl HN.out (HF _) (fun k_ hk => hk.elim) (fun k_ hk => trivial) HB1.out HB1.out.size (by simp) ?_; intro v2 w2 hn2 hb2 hg2 Bw; have Bz := Aside0.mk hn2; have HB2 := Aside0.mk hb2; clear hn2 hb2 hg2 Bw))
    go_ret
    obtain ⟨A, c, e⟩ := Kd.gI (base := 0) (Kd.N_V (base' := 0) Bz.out)
    exact ⟨A, c, by rw [e]; rfl, HB2.out⟩
structure Bun (w W : World) (P : Array Value) (g : Nat) (cu : Array Value) : Prop where
  p : W.heap[w.heap.size]? = some (.cells P 77 (0, 0))
  z : W.heap[w.heap.size + 1]? = some (.cells #[.string ⟨#[]⟩, .string ⟨#[]⟩, .int .i64 0, .int .i64 0, .bool false, .slice none 0 0] 77 (0, 0))
  c : W.heap[g]? = some (.cells cu 84 (0, 0))
  b : Below w.heap.size w W
  l : w.heap.size + 2 ≤ g
theorem Bun.below {w W W1 : World} {P : Array Value} {g : Nat} {cu : Array Value} (h : Bun w W P g cu) (hb : Below W.heap.size W W1) : Bun w W1 P g cu :=
  ⟨aJ h.p hb, aJ h.z hb, aJ h.c hb, aN h.b hb, h.l⟩
theorem Bun.drawn {w W W1 : World} {P : Array Value} {g : Nat} {cu : Array Value} (h : Bun w W P g cu) (hd : Drawn0 W W1) : Bun w W1 P g cu := by
  obtain ⟨n, rfl⟩ := hd
  exact h.below (bB (Below.refl _ _) n)
theorem Bun.drew {w W : World} {P : Array Value} {g : Nat} {cu : Array Value} (h : Bun w W P g cu) : Bun w W.drew P g cu := h.below (iU (Below.refl _ _))
theorem Bun.set {w W : World} {P : Array Value} {g : Nat} {cu : Array Value} (h : Bun w W P g cu) (j : Nat) (u : Value) : Bun w (W.setCell ⟨g, j, none⟩ u) P g (cu.setIfInBounds j u) :=
  ⟨aD h.p (by have := h.l; simp; omega) _, aD h.z (by have := h.l; simp; omega) _, aQ h.c j u rfl, eu h.b (by have := h.l; omega), h.l⟩
structure Row7 (x : S84) (cu : Array Value) (u2 u3 u4 u5 u6 : Value) : Prop where
  s : 7 ≤ cu.size
  q0 : cu[0]? = some (.string x.f0)
  q1 : cu[1]? = some (.string x.f1)
  q2 : cu[2]? = some u2
  q3 : cu[3]? = some u3
  q4 : cu[4]? = some u4
  q5 : cu[5]? = some u5
  q6 : cu[6]? = some u6
theorem Row7.of {x : S84} {cu : Array Value} {u2 u3 u4 u5 u6 : Value} (h : cu.toList.take 7 = [.string x.f0, .string x.f1, u2, u3, u4, u5, u6]) (hs : 7 ≤ cu.size) : Row7 x cu u2 u3 u4 u5 u6 := by
  have q : ∀ j, j < 7 → cu[j]? = ([.string x.f0, .string x.f1, u2, u3, u4, u5, u6] : List Value)[j]? := fun j hj => by
    rw [← h, List.getElem?_take_of_lt hj]; simp
  exact ⟨hs, q 0 (by decide), q 1 (by decide), q 2 (by decide), q 3 (by decide), q 4 (by decide), q 5 (by decide), q 6 (by decide)⟩
theorem Row7.set2 {x : S84} {cu : Array Value} {u2 u3 u4 u5 u6 : Value} (h : Row7 x cu u2 u3 u4 u5 u6) (v : Value) : Row7 x (cu.setIfInBounds 2 v) v u3 u4 u5 u6 := by
  have hs := h.s
  exact ⟨by simpa using hs, by rw [Array.getElem?_setIfInBounds_ne (by decide)]; exact h.q0, by rw [Array.getElem?_setIfInBounds_ne (by decide)]; exact h.q1, by rw [Array.getElem?_setIfInBounds]; simp; omega, by rw [Array.getElem?_setIfInBounds_ne (by decide)]; exact h.q3, by rw [Array.getElem?_setIfInBounds_ne (by decide)]; exact h.q4, by rw [Array.getElem?_setIfInBounds_ne (by decide)]; exact h.q5, by rw [Array.getElem?_setIfInBounds_ne (by decide)]; exact h.q6⟩
theorem Row7.Bg {x : S84} {cu : Array Value} {u2 u3 u4 u5 u6 : Value} (h : Row7 x cu u2 u3 u4 u5 u6) (v : Value) : Row7 x (cu.setIfInBounds 3 v) u2 v u4 u5 u6 := by
  have hs := h.s
  exact ⟨by simpa using hs, by rw [Array.getElem?_setIfInBounds_ne (by decide)]; exact h.q0, by rw [Array.getElem?_setIfInBounds_ne (by decide)]; exact h.q1, by rw [Array.getElem?_setIfInBounds_ne (by decide)]; exact h.q2, by rw [Array.getElem?_setIfInBounds]; simp; omega, by rw [Array.getElem?_setIfInBounds_ne (by decide)]; exact h.q4, by rw [Array.getElem?_setIfInBounds_ne (by decide)]; exact h.q5, by rw [Array.getElem?_setIfInBounds_ne (by decide)]; exact h.q6⟩
theorem Row7.Bh {x : S84} {cu : Array Value} {u2 u3 u4 u5 u6 : Value} (h : Row7 x cu u2 u3 u4 u5 u6) (v : Value) : Row7 x (cu.setIfInBounds 4 v) u2 u3 v u5 u6 := by
  have hs := h.s
  exact ⟨by simpa using hs, by rw [Array.getElem?_setIfInBounds_ne (by decide)]; exact h.q0, by rw [Array.getElem?_setIfInBounds_ne (by decide)]; exact h.q1, by rw [Array.getElem?_setIfInBounds_ne (by decide)]; exact h.q2, by rw [Array.getElem?_setIfInBounds_ne (by decide)]; exact h.q3, by rw [Array.getElem?_setIfInBounds]; simp; omega, by rw [Array.getElem?_setIfInBounds_ne (by decide)]; exact h.q5, by rw [Array.getElem?_setIfInBounds_ne (by decide)]; exact h.q6⟩
theorem Row7.Bj {x : S84} {cu : Array Value} {u2 u3 u4 u5 u6 : Value} (h : Row7 x cu u2 u3 u4 u5 u6) (v : Value) : Row7 x (cu.setIfInBounds 5 v) u2 u3 u4 v u6 := by
  have hs := h.s
  exact ⟨by simpa using hs, by rw [Array.getElem?_setIfInBounds_ne (by decide)]; exact h.q0, by rw [Array.getElem?_setIfInBounds_ne (by decide)]; exact h.q1, by rw [Array.getElem?_setIfInBounds_ne (by decide)]; exact h.q2, by rw [Array.getElem?_setIfInBounds_ne (by decide)]; exact h.q3, by rw [Array.getElem?_setIfInBounds_ne (by decide)]; exact h.q4, by rw [Array.getElem?_setIfInBounds]; simp; omega, by rw [Array.getElem?_setIfInBounds_ne (by decide)]; exact h.q6⟩
theorem Row7.Bl {x : S84} {cu : Array Value} {u2 u3 u4 u5 u6 : Value} (h : Row7 x cu u2 u3 u4 u5 u6) (v : Value) : Row7 x (cu.setIfInBounds 6 v) u2 u3 u4 u5 v := by
  have hs := h.s
  exact ⟨by simpa using hs, by rw [Array.getElem?_setIfInBounds_ne (by decide)]; exact h.q0, by rw [Array.getElem?_setIfInBounds_ne (by decide)]; exact h.q1, by rw [Array.getElem?_setIfInBounds_ne (by decide)]; exact h.q2, by rw [Array.getElem?_setIfInBounds_ne (by decide)]; exact h.q3, by rw [Array.getElem?_setIfInBounds_ne (by decide)]; exact h.q4, by rw [Array.getElem?_setIfInBounds_ne (by decide)]; exact h.q5, by rw [Array.getElem?_setIfInBounds]; simp; omega⟩
theorem zG {W : World} {n g cap : Nat} {cu : Array Value} {x : S84} {y4 y5 : Int} {B2 B3 B6 : Option Addr} {d2 d3 d6 : Nat} (hst : W.heap[g]? = some (.cells cu 84 (0, 0))) (hl : n ≤ g) (hcap : 1 ≤ cap) (h : Row7 x cu (.slice B2 0 d2) (.slice B3 0 d3) (.int .i64 y4) (.int .i64 y5) (.slice B6 0 d6)) :
    Kd.V k84 84 W n (fun k_ => n ≤ k_) (.slice (some ⟨g, 0, none⟩) 1 cap) [(⟨x.f0, x.f1, [], [], y4, y5, []⟩ : S84)] := by
  refine Kd.mH (xs := [(⟨x.f0, x.f1, [], [], y4, y5, []⟩ : S84)]) hcap (fun W1 hW => ?_)
  have hg1 := (hW g hl (aW hst)).trans hst
  refine ⟨rfl, by simp, fun _ => ⟨_, rfl, fun j p hj => ⟨[.string x.f0, .string x.f1, .slice B2 0 d2, .slice B3 0 d3, .int .i64 y4, .int .i64 y5, .slice B6 0 d6], rfl, ?_, fun i u hu => ?_⟩⟩⟩
  · obtain rfl : j = 0 := by
      cases j with
      | zero => rfl
      | succ j => simp at hj
    obtain rfl : (⟨x.f0, x.f1, [], [], y4, y5, []⟩ : S84) = p := by simpa using hj
    exact vL W1 (⟨x.f0, x.f1, [], [], y4, y5, []⟩ : S84) (Nat.zero_le _) ⟨rfl, by simp, fun h => by simp at h⟩ (Nat.zero_le _) ⟨rfl, by simp, fun h => by simp at h⟩ (Nat.zero_le _) ⟨rfl, by simp, fun h => by simp at h⟩
  · obtain rfl : j = 0 := by
      cases j with
      | zero => rfl
      | succ j => simp at hj
    have e : (⟨g, 0, none⟩ : Addr).add (0 * k84.sz + i) = ⟨g, i, none⟩ := by simp [Addr.add] <;> exact fun h => h.symm
    rw [e, ah hg1 i]
    obtain ⟨_, q0, q1, q2, q3, q4, q5, q6⟩ := h
    match i, hu with
    | 0, hu => exact q0.trans hu
    | 1, hu => exact q1.trans hu
    | 2, hu => exact q2.trans hu
    | 3, hu => exact q3.trans hu
    | 4, hu => exact q4.trans hu
    | 5, hu => exact q5.trans hu
    | 6, hu => exact q6.trans hu
    | i + 7, hu => cases hu
def bP.f (a0 a1 : ByteArray) (a2 a3 : Int) (a4 : Bool) (l : List S84) : Option (ByteArray × ByteArray × Int × Int × Bool × List S84) :=
  if a1.toList = [] ∧ l.length = 1 ∧ (au l 0).f2.length = 0 ∧ (au l 0).f3.length = 0 ∧ (au l 0).f6.length = 0 then
    some (a0, ⟨#[100, 101, 102, 97, 117, 108, 116]⟩, a2, (if a3 = 0 then 30 else a3), a4, [⟨(au l 0).f0, (au l 0).f1, [], [], (if (au l 0).f4 = 0 then 100 else (au l 0).f4), (if (au l 0).f5 = 0 then 64 else (au l 0).f5), []⟩])
  else none
theorem wK (a b : Int) : jq.f a b = some (if a = 0 then b else a) := by
  unfold jq.f
  split <;> rfl
theorem wL {a : ByteArray} (h : a.toList = []) : a = ⟨#[]⟩ := by
  have : a.data.toList = [] := by rw [← ByteArray.toList_eq a]; exact h
  cases a with
  | mk d =>
    congr
    exact Array.toList_inj.1 this
def bP.T9 : Bool × List (List Nat × List Nat) := (true, [([], []), ([], []), ([], []), ([2], [2]), ([3], [3]), ([4], [4]), ([5], [5]), ([], []), ([7], [7]), ([8], [8]), ([9], [9]), ([10, 6], [10]), ([0, 0, 2, 3, 4, 5, 6, 10, 11], [0]), ([12, 0, 2, 3, 4, 5, 6, 10, 11], [12]), ([13, 6, 11, 0, 2, 3, 4, 5, 6, 10, 11], [6, 13]), ([1, 0, 1, 2, 3, 4, 5, 6, 7, 8, 9, 10, 11, 12, 13, 14], [1]), ([15, 0, 1, 2, 3, 4, 5, 6, 7, 8, 9, 10, 11, 12, 13, 14], [15]), ([16, 11, 14, 0, 1, 2, 3, 4, 5, 6, 7, 8, 9, 10, 11, 12, 13, 14], [11, 16])])
def bP.B9 : List Nat := [0, 0, 0, 4, 12, 28, 60, 0, 128, 384, 896, 2044, 4093, 8189, 16381, 32767, 65535, 131071]
theorem bP.zC : gT .any (opsOf Tryz.f81 9) = bP.T9 := by kernel_rfl
theorem bP.wJ : fO bP.T9.2 bP.B9 = true := by kernel_rfl
def bP.T10 : Bool × List (List Nat × List Nat) := (true, [([], []), ([], []), ([], []), ([], []), ([3], [3]), ([4], [4]), ([5], [5]), ([6], [6]), ([], []), ([8], [8]), ([9], [9]), ([10], [10]), ([11, 7], [11]), ([], []), ([13], [13]), ([14], [14]), ([15], [15]), ([16, 12], [16]), ([0, 0, 3, 4, 5, 6, 7, 11, 12, 16, 17], [0]), ([18, 0, 3, 4, 5, 6, 7, 11, 12, 16, 17], [18]), ([19, 7, 17, 0, 3, 4, 5, 6, 7, 11, 12, 16, 17], [7, 19]), ([1, 0, 1, 3, 4, 5, 6, 7, 8, 9, 10, 11, 12, 16, 17, 18, 19, 20], [1]), ([21, 0, 1, 3, 4, 5, 6, 7, 8, 9, 10, 11, 12, 16, 17, 18, 19, 20], [21]), ([22, 12, 20, 0, 1, 3, 4, 5, 6, 7, 8, 9, 10, 11, 12, 16, 17, 18, 19, 20], [12, 22]), ([2, 0, 1, 2, 3, 4, 5, 6, 7, 8, 9, 10, 11, 12, 13, 14, 15, 16, 17, 18, 19, 20, 21, 22, 23], [2]), ([24, 0, 1, 2, 3, 4, 5, 6, 7, 8, 9, 10, 11, 12, 13, 14, 15, 16, 17, 18, 19, 20, 21, 22, 23], [24]), ([25, 17, 23, 0, 1, 2, 3, 4, 5, 6, 7, 8, 9, 10, 11, 12, 13, 14, 15, 16, 17, 18, 19, 20, 21, 22, 23], [17, 25])])
def bP.B10 : List Nat := [0, 0, 0, 0, 8, 24, 56, 120, 0, 256, 768, 1792, 4088, 0, 8192, 24576, 57344, 131064, 262137, 524281, 1048569, 2097147, 4194299, 8388603, 16777215, 33554431, 67108863]
theorem bP.wH : gT .any (opsOf Tryz.f81 10) = bP.T10 := by kernel_rfl
theorem bP.r9 : fO bP.T10.2 bP.B10 = true := by kernel_rfl
set_option maxHeartbeats 8000000 in
set_option maxRecDepth 100000 in
theorem bP.calls (a0 a1 : ByteArray) (a2 a3 : Int) (a4 : Bool) (A5 : Option Addr) (c5 : Nat) (l5 : List S84) (r1 r2 : ByteArray) (r3 r4 : Int) (r5 : Bool) (r6 : List S84) (w : World) (BH : Kd.C k84 w A5 l5.length l5) (BK : l5.length ≤ c5) (h : bP.f a0 a1 a2 a3 a4 l5 = some (r1, r2, r3, r4, r5, r6)) :
    Calls Tryz.prog 81 #[.agg #[.string a0, .string a1, .int .i64 a2, .int .i64 a3, .bool a4, .slice A5 l5.length c5]] w fun e w' => ∃ BI : Value, e = .returned (.agg #[.string r1, .string r2, .int .i64 r3, .int .i64 r4, .bool r5, BI]) ∧ Kd.V k84 84 w' w.heap.size (fun k_ => (w.heap.size ≤ k_)) BI r6 ∧ Below w.heap.size w w' := by
  unfold bP.f at h
  split at h
  case isFalse => cases h
  rename_i hc
  obtain ⟨h1, h2, h3, h4, h6⟩ := hc
  obtain ⟨x, rfl⟩ : ∃ x, l5 = [x] := by
    cases l5 with
    | nil => cases h2
    | cons x l =>
      cases l with
      | nil => exact ⟨x, rfl⟩
      | cons _ _ => simp at h2
  have hx : au [x] 0 = x := rfl
  rw [hx] at h h3 h4 h6
  obtain ⟨y3, hy3⟩ : ∃ y, y = (if a3 = 0 then 30 else a3) := ⟨_, rfl⟩
  obtain ⟨y4, hy4⟩ : ∃ y, y = (if x.f4 = 0 then 100 else x.f4) := ⟨_, rfl⟩
  obtain ⟨y5, BG⟩ : ∃ y, y = (if x.f5 = 0 then 64 else x.f5) := ⟨_, rfl⟩
  rw [← hy3, ← hy4, ← BG] at h
  simp only [Option.some.injEq, Prod.mk.injEq] at h
  obtain ⟨rfl, rfl, rfl, rfl, rfl, rfl⟩ := h
  obtain rfl := wL h1
  have O3 := Aside0.mk (show jq.f a3 30 = some y3 by rw [wK, hy3])
  have O4 := Aside0.mk (show jq.f x.f4 100 = some y4 by rw [wK, hy4])
  have O5 := Aside0.mk (show jq.f x.f5 64 = some y5 by rw [wK, BG])
  clear h1 h2 hx hy3 hy4 BG
  have E2 := Aside0.mk h3
  have E3 := Aside0.mk h4
  have E6 := Aside0.mk h6
  have HR := Aside0.mk BH
  clear h3 h4 h6 BH BK
  have BL := Tryz.underlying77
  have BN := Tryz.underlying84
  go_enter Tryz.func81, Tryz.ntmps81
  go_wp2_with (first
    | (go_at_call 97; refine (jq.calls a3 30 _ _ O3.out).mono ?_; rintro e w1 ⟨rfl, ⟨n1, rfl⟩⟩)
    | (go_at_call 98; refine (zF.calls A5 c5 x _ (Kd.bJ HR.out (by repeat (first | exact Below.refl _ _ | apply dG | apply bB | apply bL | refine eu ?_ (Nat.le_refl _))))).mono ?_; rintro e w4 ⟨v, rfl, hN, hb⟩; obtain ⟨g, cap, cur, A2, c2, A3, c3, A6, c6, rfl, hg, hcap, hh, htk, hsz⟩ := xQ hN; have G0 := Aside0.mk ((hb.block w.heap.size (by simp; omega)).trans (show _ = some (Obj.cells #[.string a0, .string ⟨#[100, 101, 102, 97, 117, 108, 116]⟩, .int .i64 a2, .int .i64 y3, .bool a4, .slice A5 1 c5] 77 (0, 0)) from by refine aQ (cs := #[.string a0, .string ⟨#[100, 101, 102, 97, 117, 108, 116]⟩, .int .i64 a2, .int .i64 a3, .bool a4, .slice A5 1 c5]) ?_ 3 _ rfl; apply aj; apply ak; exact heap_alloc_new w _)); have G1 := Aside0.mk ((hb.block (w.heap.size + 1) (by simp)).trans (show _ = some (Obj.cells #[.string ⟨#[]⟩, .string ⟨#[]⟩, .int .i64 0, .int .i64 0, .bool false, .slice none 0 0] 77 (0, 0)) from by refine aD ?_ (by simp) _; apply aj; have q := heap_alloc_new (w.alloc (Obj.cells #[.string a0, .string ⟨#[100, 101, 102, 97, 117, 108, 116]⟩, .int .i64 a2, .int .i64 a3, .bool a4, .slice A5 1 c5] 77)) (Obj.cells #[.string ⟨#[]⟩, .string ⟨#[]⟩, .int .i64 0, .int .i64 0, .bool false, .slice none 0 0] 77); simpa using q)); have GC := Aside0.mk hh; have GT := Aside0.mk htk; have GS := Aside0.mk hsz; have GH := Aside0.mk (show w.heap.size + 2 ≤ g by simpa using hg); have HB := Aside0.mk (aN (show Below w.heap.size w _ from by repeat (first | exact Below.refl _ _ | apply dG | apply bB | apply bL | refine eu ?_ (Nat.le_refl _))) hb); have z5 : w4.cell? ⟨w.heap.size,5,none⟩ = some (.slice A5 1 c5) := (ah G0.out 5).trans rfl; have f5 := av G0.out 5; clear hN hb hg hh htk hsz))
  go_loopg [20] 1 (fun kq v20 w' => ∃ i : Nat, v20 = .int .i64 (i : Int) ∧ Aside0 (i + kq = 1) ∧ ∃ cu : Array Value, Aside0 (Bun w w' #[.string a0, .string ⟨#[100, 101, 102, 97, 117, 108, 116]⟩, .int .i64 a2, .int .i64 y3, .bool a4, .slice (some ⟨g, 0, none⟩) 1 cap] g cu) ∧ Aside0 (i = 0 → Row7 x cu (.slice A2 x.f2.length c2) (.slice A3 x.f3.length c3) (.int .i64 x.f4) (.int .i64 x.f5) (.slice A6 x.f6.length c6)) ∧ Aside0 (i = 1 → ∃ B2 d2 B3 d3 B6 d6, Row7 x cu (.slice B2 0 d2) (.slice B3 0 d3) (.int .i64 y4) (.int .i64 y5) (.slice B6 0 d6)))
  case atStart =>
    refine ⟨0, rfl, ⟨by omega⟩, cur, ⟨?_, ?_, ?_, ?_, GH.out⟩, ⟨fun _ => Row7.of GT.out (by have := GS.out; omega)⟩, ⟨fun h => by cases h⟩⟩
    · refine aQ (cs := #[.string a0, .string ⟨#[100, 101, 102, 97, 117, 108, 116]⟩, .int .i64 a2, .int .i64 y3, .bool a4, .slice A5 1 c5]) G0.out 5 _ rfl
    · exact aD G1.out (by simp) _
    · exact aD GC.out (by have := GH.out; simp; omega) _
    · exact eu HB.out (Nat.le_refl _)
  case round =>
    clear G0 G1 GC GT GS HB z5 f5
    obtain ⟨i, rfl, hi, cu, HI, GT, GF⟩ := hrel
    have z5 : wr.cell? ⟨w.heap.size,5,none⟩ = some (.slice (some ⟨g, 0, none⟩) 1 cap) := (ah HI.out.p 5).trans rfl
    cases gk with
    | zero =>
      obtain rfl : i = 1 := by have := hi.out; omega
      obtain ⟨B2, d2, B3, d3, B6, d6, hR⟩ := GF.out rfl
      have HX := Aside0.mk hR
      clear GT GF hi hR
      have p0 : wr.cell? ⟨w.heap.size,0,none⟩ = some (.string a0) := (ah HI.out.p 0).trans rfl
      have p1 : wr.cell? ⟨w.heap.size,1,none⟩ = some (.string ⟨#[100, 101, 102, 97, 117, 108, 116]⟩) := (ah HI.out.p 1).trans rfl
      have p2 : wr.cell? ⟨w.heap.size,2,none⟩ = some (.int .i64 a2) := (ah HI.out.p 2).trans rfl
      have p3 : wr.cell? ⟨w.heap.size,3,none⟩ = some (.int .i64 y3) := (ah HI.out.p 3).trans rfl
      have p4 : wr.cell? ⟨w.heap.size,4,none⟩ = some (.bool a4) := (ah HI.out.p 4).trans rfl
      have r0 : wr.cell? ⟨w.heap.size + 1,0,none⟩ = some (.string ⟨#[]⟩) := (ah HI.out.z 0).trans rfl
      have r1 : wr.cell? ⟨w.heap.size + 1,1,none⟩ = some (.string ⟨#[]⟩) := (ah HI.out.z 1).trans rfl
      have r2 : wr.cell? ⟨w.heap.size + 1,2,none⟩ = some (.int .i64 0) := (ah HI.out.z 2).trans rfl
      have r3 : wr.cell? ⟨w.heap.size + 1,3,none⟩ = some (.int .i64 0) := (ah HI.out.z 3).trans rfl
      have r4 : wr.cell? ⟨w.heap.size + 1,4,none⟩ = some (.bool false) := (ah HI.out.z 4).trans rfl
      have r5 : wr.cell? ⟨w.heap.size + 1,5,none⟩ = some (.slice none 0 0) := (ah HI.out.z 5).trans rfl
      have s0 := av HI.out.z 0
      have s1 := av HI.out.z 1
      have s2 := av HI.out.z 2
      have s3 := av HI.out.z 3
      have s4 := av HI.out.z 4
      have s5 := av HI.out.z 5
      go_wp2
      have hgc := HI.out.c
      have hgl := HI.out.l
      refine bodyPost_ret (results_cell_row rfl _ _ (w.heap.size + 1) 77 #[.string a0, .string ⟨#[100, 101, 102, 97, 117, 108, 116]⟩, .int .i64 a2, .int .i64 y3, .bool a4, .slice (some ⟨g, 0, none⟩) 1 cap] (0, 0) _ rfl (by refine aQ (cs := #[.string a0, .string ⟨#[100, 101, 102, 97, 117, 108, 116]⟩, .int .i64 a2, .int .i64 y3, .bool a4, .slice none 0 0]) ?_ 5 _ rfl; refine aQ (cs := #[.string a0, .string ⟨#[100, 101, 102, 97, 117, 108, 116]⟩, .int .i64 a2, .int .i64 y3, .bool false, .slice none 0 0]) ?_ 4 _ rfl; refine aQ (cs := #[.string a0, .string ⟨#[100, 101, 102, 97, 117, 108, 116]⟩, .int .i64 a2, .int .i64 0, .bool false, .slice none 0 0]) ?_ 3 _ rfl; refine aQ (cs := #[.string a0, .string ⟨#[100, 101, 102, 97, 117, 108, 116]⟩, .int .i64 0, .int .i64 0, .bool false, .slice none 0 0]) ?_ 2 _ rfl; refine aQ (cs := #[.string a0, .string ⟨#[]⟩, .int .i64 0, .int .i64 0, .bool false, .slice none 0 0]) ?_ 1 _ rfl; refine aQ (cs := #[.string ⟨#[]⟩, .string ⟨#[]⟩, .int .i64 0, .int .i64 0, .bool false, .slice none 0 0]) ?_ 0 _ rfl; exact HI.out.z) Tryz.underlying77 rfl (by kernel_rfl)) rfl ?_
      have hne : g ≠ w.heap.size + 1 := by omega
      have hle : w.heap.size ≤ g := by omega
      have hl1 : w.heap.size ≤ w.heap.size + 1 := by omega
      refine ⟨_, rfl, zG ?_ hle hcap HX.out, ?_⟩
      · iterate 6 (refine aD ?_ hne _)
        exact hgc
      · iterate 6 (refine eu ?_ hl1)
        exact HI.out.b
    | succ k1 =>
      obtain rfl : i = 0 := by have := hi.out; omega
      have hX := GT.out rfl
      have HX := Aside0.mk hX
      clear GF GT hX
      go_upto_region 9 with (fail)
      (try simp only [Act.put, List.setIfInBounds_toArray, List.set_cons_zero, List.set_cons_succ])
      refine gZ (n := 18) (S := fun w' => Bun w w' #[.string a0, .string ⟨#[100, 101, 102, 97, 117, 108, 116]⟩, .int .i64 a2, .int .i64 y3, .bool a4, .slice (some ⟨g, 0, none⟩) 1 cap] g cu) (ds := [14, 17]) #[O,O,O,O,O,O,O,O,O,O,O,O,O,O,O,O,O,O] (by kernel_rfl) rfl rfl (HI.out.drew) (fun hHeld => ?_)
      refine eY bP.zC bP.wJ (fun HT_ HW_ => ?_)
      replace HI := Aside0.mk HI.out.drew
      refine pu_ 0 27 #[I,O,O,O,O,O,O,O,O,O,O,O,O,O,O,O,O,O] HT_.out ?_
      refine pu_ 1 28 #[I,I,O,O,O,O,O,O,O,O,O,O,O,O,O,O,O,O] HT_.out ?_
      refine pu_ 2 29 #[I,I,I,O,O,O,O,O,O,O,O,O,O,O,O,O,O,O] HT_.out ?_
      refine pu_ 3 30 #[I,I,I,I,O,O,O,O,O,O,O,O,O,O,O,O,O,O] HT_.out ?_
      refine pu_ 4 31 #[I,I,I,I,I,O,O,O,O,O,O,O,O,O,O,O,O,O] HT_.out ?_
      refine pu_ 7 34 #[I,I,I,I,I,O,O,I,O,O,O,O,O,O,O,O,O,O] HT_.out ?_
      refine pu_ 8 35 #[I,I,I,I,I,O,O,I,I,O,O,O,O,O,O,O,O,O] HT_.out ?_
      refine pu_ 9 36 #[I,I,I,I,I,O,O,I,I,I,O,O,O,O,O,O,O,O] HT_.out ?_
      refine gy (i := 5) (N := some 32) (v := ?_) (a' := ?_) #[I,I,I,I,I,I,O,I,I,I,O,O,O,O,O,O,O,O] rfl rfl (dR HT_.out HW_.out (by kernel_rfl)) (fun _ _ _ h => h) (Or.inl ⟨by rfl, ?_⟩) hHeld ?_ ?_
      rotate_left
      · intro w' s0
        have e2 : w'.cell? ⟨g,2,none⟩ = some (.slice A2 x.f2.length c2) := (ah s0.c 2).trans HX.out.q2
        have e3 : w'.cell? ⟨g,3,none⟩ = some (.slice A3 x.f3.length c3) := (ah s0.c 3).trans HX.out.q3
        have e4 : w'.cell? ⟨g,4,none⟩ = some (.int .i64 x.f4) := (ah s0.c 4).trans HX.out.q4
        have e5 : w'.cell? ⟨g,5,none⟩ = some (.int .i64 x.f5) := (ah s0.c 5).trans HX.out.q5
        have e6 : w'.cell? ⟨g,6,none⟩ = some (.slice A6 x.f6.length c6) := (ah s0.c 6).trans HX.out.q6
        go_simp
        with_reducible rfl
      rotate_left
      · simp only [Act.put, List.setIfInBounds_toArray, List.set_cons_zero, List.set_cons_succ, bO, bR]
        rfl
      refine gy (i := 10) (N := some 37) (v := ?_) (a' := ?_) #[I,I,I,I,I,I,O,I,I,I,I,O,O,O,O,O,O,O] rfl rfl (dR HT_.out HW_.out (by kernel_rfl)) (fun _ _ _ h => h) (Or.inl ⟨by rfl, ?_⟩) hHeld ?_ ?_
      rotate_left
      · intro w' s0
        have e2 : w'.cell? ⟨g,2,none⟩ = some (.slice A2 x.f2.length c2) := (ah s0.c 2).trans HX.out.q2
        have e3 : w'.cell? ⟨g,3,none⟩ = some (.slice A3 x.f3.length c3) := (ah s0.c 3).trans HX.out.q3
        have e4 : w'.cell? ⟨g,4,none⟩ = some (.int .i64 x.f4) := (ah s0.c 4).trans HX.out.q4
        have e5 : w'.cell? ⟨g,5,none⟩ = some (.int .i64 x.f5) := (ah s0.c 5).trans HX.out.q5
        have e6 : w'.cell? ⟨g,6,none⟩ = some (.slice A6 x.f6.length c6) := (ah s0.c 6).trans HX.out.q6
        go_simp
        with_reducible rfl
      rotate_left
      · simp only [Act.put, List.setIfInBounds_toArray, List.set_cons_zero, List.set_cons_succ, bO, bR]
        rfl
      refine fU (i := 6) (N := some 33) #[I,I,I,I,I,I,I,I,I,I,I,O,O,O,O,O,O,O] rfl rfl (cO HT_.out (by kernel_rfl)) (by decide) (fun K hK => ?_)
      refine eU Tryz.func97 (by kernel_rfl) rfl #[.int .i64 x.f4, .int .i64 100] (by rfl) rfl rfl (by (try simp only [List.map_toArray, List.map_cons, List.map_nil]); first | done | rfl) ?_
      refine (jq.calls x.f4 100 y4 _ O4.out).mono ?_
      rintro e w5 ⟨rfl, hd⟩
      refine ⟨_, rfl, ?_⟩
      replace HI := Aside0.mk (HI.out.drawn hd)
      clear hd
      refine hK.out _ _ (HI.out) (fun hHeld => ?_)
      clear hK K
      refine dX (a' := ?_) ?_ ?_
      rotate_left
      · show Act.put _ (some 33) _ = _
        simp only [Act.put, List.setIfInBounds_toArray, List.set_cons_zero, List.set_cons_succ, bO, bR]
        rfl
      refine fU (i := 11) (N := some 38) #[I,I,I,I,I,I,I,I,I,I,I,I,O,O,O,O,O,O] rfl rfl (cO HT_.out (by kernel_rfl)) (by decide) (fun K hK => ?_)
      refine eU Tryz.func97 (by kernel_rfl) rfl #[.int .i64 x.f5, .int .i64 64] (by rfl) rfl rfl (by (try simp only [List.map_toArray, List.map_cons, List.map_nil]); first | done | rfl) ?_
      refine (jq.calls x.f5 64 y5 _ O5.out).mono ?_
      rintro e w6 ⟨rfl, hd⟩
      refine ⟨_, rfl, ?_⟩
      replace HI := Aside0.mk (HI.out.drawn hd)
      clear hd
      refine hK.out _ _ (HI.out) (fun hHeld => ?_)
      clear hK K
      refine dX (a' := ?_) ?_ ?_
      rotate_left
      · show Act.put _ (some 38) _ = _
        simp only [Act.put, List.setIfInBounds_toArray, List.set_cons_zero, List.set_cons_succ, bO, bR]
        rfl
      refine pu_ 12 39 #[I,I,I,I,I,I,I,I,I,I,I,I,I,O,O,O,O,O] HT_.out ?_
      refine pu_ 13 40 #[I,I,I,I,I,I,I,I,I,I,I,I,I,I,O,O,O,O] HT_.out ?_
      refine kJ (i := 14) (N := none) #[I,I,I,I,I,I,I,I,I,I,I,I,I,I,I,O,O,O] rfl rfl (cO HT_.out (by kernel_rfl)) (by decide) (fun K hK => ?_)
      have z := (ah HI.out.c 4).trans HX.out.q4
      have f := av HI.out.c 4
      refine jZ (w1 := ?_) (by rfl) rfl ?_ ?_
      rotate_left
      · go_simp
        rfl
      clear z f
      have HI1 := Aside0.mk (HI.out.set 4 (.int .i64 y4))
      have BD := Aside0.mk (HX.out.Bh (.int .i64 y4))
      clear HI HX
      refine hK.out _ _ ?_
      clear hK K
      refine pu_ 15 41 #[I,I,I,I,I,I,I,I,I,I,I,I,I,I,I,I,O,O] HT_.out ?_
      refine pu_ 16 42 #[I,I,I,I,I,I,I,I,I,I,I,I,I,I,I,I,I,O] HT_.out ?_
      refine kJ (i := 17) (N := none) #[I,I,I,I,I,I,I,I,I,I,I,I,I,I,I,I,I,I] rfl rfl (cO HT_.out (by kernel_rfl)) (by decide) (fun K hK => ?_)
      have z := (ah HI1.out.c 5).trans BD.out.q5
      have f := av HI1.out.c 5
      refine jZ (w1 := ?_) (by rfl) rfl ?_ ?_
      rotate_left
      · go_simp
        rfl
      clear z f
      have HI2 := Aside0.mk (HI1.out.set 5 (.int .i64 y5))
      have BF := Aside0.mk (BD.out.Bj (.int .i64 y5))
      clear HI1 BD
      refine hK.out _ _ ?_
      clear hK K
      refine iZ (gD HT_.out (by kernel_rfl)) ?_
      obtain ⟨cv, hcv⟩ : ∃ cv, (cu.setIfInBounds 4 (.int .i64 y4)).setIfInBounds 5 (.int .i64 y5) = cv := ⟨_, rfl⟩
      rw [hcv] at HI2 BF
      clear hcv
      have HI := HI2
      have HX := BF
      clear HI2 BF
      go_upto_region 10 with (fail)
      (try simp only [Act.put, List.setIfInBounds_toArray, List.set_cons_zero, List.set_cons_succ])
      refine gZ (n := 27) (S := fun w' => Bun w w' #[.string a0, .string ⟨#[100, 101, 102, 97, 117, 108, 116]⟩, .int .i64 a2, .int .i64 y3, .bool a4, .slice (some ⟨g, 0, none⟩) 1 cap] g cv) (ds := [20, 23, 26]) #[O,O,O,O,O,O,O,O,O,O,O,O,O,O,O,O,O,O,O,O,O,O,O,O,O,O,O] (by kernel_rfl) rfl rfl (HI.out.drew) (fun hHeld => ?_)
      refine eY bP.wH bP.r9 (fun HT_ HW_ => ?_)
      replace HI := Aside0.mk HI.out.drew
      refine pu_ 0 43 #[I,O,O,O,O,O,O,O,O,O,O,O,O,O,O,O,O,O,O,O,O,O,O,O,O,O,O] HT_.out ?_
      refine pu_ 1 44 #[I,I,O,O,O,O,O,O,O,O,O,O,O,O,O,O,O,O,O,O,O,O,O,O,O,O,O] HT_.out ?_
      refine pu_ 2 45 #[I,I,I,O,O,O,O,O,O,O,O,O,O,O,O,O,O,O,O,O,O,O,O,O,O,O,O] HT_.out ?_
      refine pu_ 3 46 #[I,I,I,I,O,O,O,O,O,O,O,O,O,O,O,O,O,O,O,O,O,O,O,O,O,O,O] HT_.out ?_
      refine pu_ 4 47 #[I,I,I,I,I,O,O,O,O,O,O,O,O,O,O,O,O,O,O,O,O,O,O,O,O,O,O] HT_.out ?_
      refine pu_ 5 48 #[I,I,I,I,I,I,O,O,O,O,O,O,O,O,O,O,O,O,O,O,O,O,O,O,O,O,O] HT_.out ?_
      refine pu_ 8 51 #[I,I,I,I,I,I,O,O,I,O,O,O,O,O,O,O,O,O,O,O,O,O,O,O,O,O,O] HT_.out ?_
      refine pu_ 9 52 #[I,I,I,I,I,I,O,O,I,I,O,O,O,O,O,O,O,O,O,O,O,O,O,O,O,O,O] HT_.out ?_
      refine pu_ 10 53 #[I,I,I,I,I,I,O,O,I,I,I,O,O,O,O,O,O,O,O,O,O,O,O,O,O,O,O] HT_.out ?_
      refine pu_ 13 56 #[I,I,I,I,I,I,O,O,I,I,I,O,O,I,O,O,O,O,O,O,O,O,O,O,O,O,O] HT_.out ?_
      refine pu_ 14 57 #[I,I,I,I,I,I,O,O,I,I,I,O,O,I,I,O,O,O,O,O,O,O,O,O,O,O,O] HT_.out ?_
      refine pu_ 15 58 #[I,I,I,I,I,I,O,O,I,I,I,O,O,I,I,I,O,O,O,O,O,O,O,O,O,O,O] HT_.out ?_
      refine gy (i := 6) (N := some 49) (v := ?_) (a' := ?_) #[I,I,I,I,I,I,I,O,I,I,I,O,O,I,I,I,O,O,O,O,O,O,O,O,O,O,O] rfl rfl (dR HT_.out HW_.out (by kernel_rfl)) (fun _ _ _ h => h) (Or.inl ⟨by rfl, ?_⟩) hHeld ?_ ?_
      rotate_left
      · intro w' s0
        have e2 : w'.cell? ⟨g,2,none⟩ = some (.slice A2 x.f2.length c2) := (ah s0.c 2).trans HX.out.q2
        have e3 : w'.cell? ⟨g,3,none⟩ = some (.slice A3 x.f3.length c3) := (ah s0.c 3).trans HX.out.q3
        have e4 : w'.cell? ⟨g,4,none⟩ = some (.int .i64 y4) := (ah s0.c 4).trans HX.out.q4
        have e5 : w'.cell? ⟨g,5,none⟩ = some (.int .i64 y5) := (ah s0.c 5).trans HX.out.q5
        have e6 : w'.cell? ⟨g,6,none⟩ = some (.slice A6 x.f6.length c6) := (ah s0.c 6).trans HX.out.q6
        go_simp
        with_reducible rfl
      rotate_left
      · simp only [Act.put, List.setIfInBounds_toArray, List.set_cons_zero, List.set_cons_succ, bO, bR]
        rfl
      refine gy (i := 11) (N := some 54) (v := ?_) (a' := ?_) #[I,I,I,I,I,I,I,O,I,I,I,I,O,I,I,I,O,O,O,O,O,O,O,O,O,O,O] rfl rfl (dR HT_.out HW_.out (by kernel_rfl)) (fun _ _ _ h => h) (Or.inl ⟨by rfl, ?_⟩) hHeld ?_ ?_
      rotate_left
      · intro w' s0
        have e2 : w'.cell? ⟨g,2,none⟩ = some (.slice A2 x.f2.length c2) := (ah s0.c 2).trans HX.out.q2
        have e3 : w'.cell? ⟨g,3,none⟩ = some (.slice A3 x.f3.length c3) := (ah s0.c 3).trans HX.out.q3
        have e4 : w'.cell? ⟨g,4,none⟩ = some (.int .i64 y4) := (ah s0.c 4).trans HX.out.q4
        have e5 : w'.cell? ⟨g,5,none⟩ = some (.int .i64 y5) := (ah s0.c 5).trans HX.out.q5
        have e6 : w'.cell? ⟨g,6,none⟩ = some (.slice A6 x.f6.length c6) := (ah s0.c 6).trans HX.out.q6
        go_simp
        with_reducible rfl
      rotate_left
      · simp only [Act.put, List.setIfInBounds_toArray, List.set_cons_zero, List.set_cons_succ, bO, bR]
        rfl
      refine gy (i := 16) (N := some 59) (v := ?_) (a' := ?_) #[I,I,I,I,I,I,I,O,I,I,I,I,O,I,I,I,I,O,O,O,O,O,O,O,O,O,O] rfl rfl (dR HT_.out HW_.out (by kernel_rfl)) (fun _ _ _ h => h) (Or.inl ⟨by rfl, ?_⟩) hHeld ?_ ?_
      rotate_left
      · intro w' s0
        have e2 : w'.cell? ⟨g,2,none⟩ = some (.slice A2 x.f2.length c2) := (ah s0.c 2).trans HX.out.q2
        have e3 : w'.cell? ⟨g,3,none⟩ = some (.slice A3 x.f3.length c3) := (ah s0.c 3).trans HX.out.q3
        have e4 : w'.cell? ⟨g,4,none⟩ = some (.int .i64 y4) := (ah s0.c 4).trans HX.out.q4
        have e5 : w'.cell? ⟨g,5,none⟩ = some (.int .i64 y5) := (ah s0.c 5).trans HX.out.q5
        have e6 : w'.cell? ⟨g,6,none⟩ = some (.slice A6 x.f6.length c6) := (ah s0.c 6).trans HX.out.q6
        go_simp
        with_reducible rfl
      rotate_left
      · simp only [Act.put, List.setIfInBounds_toArray, List.set_cons_zero, List.set_cons_succ, bO, bR]
        rfl
      refine fU (i := 7) (N := some 50) #[I,I,I,I,I,I,I,I,I,I,I,I,O,I,I,I,I,O,O,O,O,O,O,O,O,O,O] rfl rfl (cO HT_.out (by kernel_rfl)) (by decide) (fun K hK => ?_)
      refine eU Tryz.func99 (by kernel_rfl) rfl #[.slice A2 x.f2.length c2] (by rfl) rfl rfl (by (try simp only [List.map_toArray, List.map_cons, List.map_nil]); first | done | rfl) ?_
      refine (xU.calls A2 c2 x.f2.length _ E2.out).mono ?_
      rintro e w9 ⟨B2, d2, rfl, hb⟩
      refine ⟨_, rfl, ?_⟩
      replace HI := Aside0.mk (HI.out.below hb)
      clear hb
      refine hK.out _ _ (HI.out) (fun hHeld => ?_)
      clear hK K
      refine dX (a' := ?_) ?_ ?_
      rotate_left
      · show Act.put _ (some 50) _ = _
        simp only [Act.put, List.setIfInBounds_toArray, List.set_cons_zero, List.set_cons_succ, bO, bR]
        rfl
      refine fU (i := 12) (N := some 55) #[I,I,I,I,I,I,I,I,I,I,I,I,I,I,I,I,I,O,O,O,O,O,O,O,O,O,O] rfl rfl (cO HT_.out (by kernel_rfl)) (by decide) (fun K hK => ?_)
      refine eU Tryz.func100 (by kernel_rfl) rfl #[.slice A3 x.f3.length c3] (by rfl) rfl rfl (by (try simp only [List.map_toArray, List.map_cons, List.map_nil]); first | done | rfl) ?_
      refine (xV.calls A3 c3 x.f3.length _ E3.out).mono ?_
      rintro e BP ⟨B3, d3, rfl, hb⟩
      refine ⟨_, rfl, ?_⟩
      replace HI := Aside0.mk (HI.out.below hb)
      clear hb
      refine hK.out _ _ (HI.out) (fun hHeld => ?_)
      clear hK K
      refine dX (a' := ?_) ?_ ?_
      rotate_left
      · show Act.put _ (some 55) _ = _
        simp only [Act.put, List.setIfInBounds_toArray, List.set_cons_zero, List.set_cons_succ, bO, bR]
        rfl
      refine fU (i := 17) (N := some 60) #[I,I,I,I,I,I,I,I,I,I,I,I,I,I,I,I,I,I,O,O,O,O,O,O,O,O,O] rfl rfl (cO HT_.out (by kernel_rfl)) (by decide) (fun K hK => ?_)
      refine eU Tryz.func101 (by kernel_rfl) rfl #[.slice A6 x.f6.length c6] (by rfl) rfl rfl (by (try simp only [List.map_toArray, List.map_cons, List.map_nil]); first | done | rfl) ?_
      refine (xW.calls A6 c6 x.f6.length _ E6.out).mono ?_
      rintro e BQ ⟨B6, d6, rfl, hb⟩
      refine ⟨_, rfl, ?_⟩
      replace HI := Aside0.mk (HI.out.below hb)
      clear hb
      refine hK.out _ _ (HI.out) (fun hHeld => ?_)
      clear hK K
      refine dX (a' := ?_) ?_ ?_
      rotate_left
      · show Act.put _ (some 60) _ = _
        simp only [Act.put, List.setIfInBounds_toArray, List.set_cons_zero, List.set_cons_succ, bO, bR]
        rfl
      refine pu_ 18 61 #[I,I,I,I,I,I,I,I,I,I,I,I,I,I,I,I,I,I,I,O,O,O,O,O,O,O,O] HT_.out ?_
      refine pu_ 19 62 #[I,I,I,I,I,I,I,I,I,I,I,I,I,I,I,I,I,I,I,I,O,O,O,O,O,O,O] HT_.out ?_
      refine kJ (i := 20) (N := none) #[I,I,I,I,I,I,I,I,I,I,I,I,I,I,I,I,I,I,I,I,I,O,O,O,O,O,O] rfl rfl (cO HT_.out (by kernel_rfl)) (by decide) (fun K hK => ?_)
      have z := (ah HI.out.c 2).trans HX.out.q2
      have f := av HI.out.c 2
      refine jZ (w1 := ?_) (by rfl) rfl ?_ ?_
      rotate_left
      · go_simp
        rfl
      clear z f
      have HI1 := Aside0.mk (HI.out.set 2 (.slice B2 0 d2))
      have BD := Aside0.mk (HX.out.set2 (.slice B2 0 d2))
      clear HI HX
      refine hK.out _ _ ?_
      clear hK K
      refine pu_ 21 63 #[I,I,I,I,I,I,I,I,I,I,I,I,I,I,I,I,I,I,I,I,I,I,O,O,O,O,O] HT_.out ?_
      refine pu_ 22 64 #[I,I,I,I,I,I,I,I,I,I,I,I,I,I,I,I,I,I,I,I,I,I,I,O,O,O,O] HT_.out ?_
      refine kJ (i := 23) (N := none) #[I,I,I,I,I,I,I,I,I,I,I,I,I,I,I,I,I,I,I,I,I,I,I,I,O,O,O] rfl rfl (cO HT_.out (by kernel_rfl)) (by decide) (fun K hK => ?_)
      have z := (ah HI1.out.c 3).trans BD.out.q3
      have f := av HI1.out.c 3
      refine jZ (w1 := ?_) (by rfl) rfl ?_ ?_
      rotate_left
      · go_simp
        rfl
      clear z f
      have HI2 := Aside0.mk (HI1.out.set 3 (.slice B3 0 d3))
      have BF := Aside0.mk (BD.out.Bg (.slice B3 0 d3))
      clear HI1 BD
      refine hK.out _ _ ?_
      clear hK K
      refine pu_ 24 65 #[I,I,I,I,I,I,I,I,I,I,I,I,I,I,I,I,I,I,I,I,I,I,I,I,I,O,O] HT_.out ?_
      refine pu_ 25 66 #[I,I,I,I,I,I,I,I,I,I,I,I,I,I,I,I,I,I,I,I,I,I,I,I,I,I,O] HT_.out ?_
      refine kJ (i := 26) (N := none) #[I,I,I,I,I,I,I,I,I,I,I,I,I,I,I,I,I,I,I,I,I,I,I,I,I,I,I] rfl rfl (cO HT_.out (by kernel_rfl)) (by decide) (fun K hK => ?_)
      have z := (ah HI2.out.c 6).trans BF.out.q6
      have f := av HI2.out.c 6
      refine jZ (w1 := ?_) (by rfl) rfl ?_ ?_
      rotate_left
      · go_simp
        rfl
      clear z f
      have HI3 := Aside0.mk (HI2.out.set 6 (.slice B6 0 d6))
      have BO := Aside0.mk (BF.out.Bl (.slice B6 0 d6))
      clear HI2 BF
      refine hK.out _ _ ?_
      clear hK K
      refine iZ (gD HT_.out (by kernel_rfl)) ?_
      go_wp2
      go_roundg k1
      case measure => exact Nat.lt_succ_self k1
      case rel =>
        refine ⟨1, by first | rfl | (simp; done), ⟨by have := hi.out; omega⟩, _, ⟨HI3.out⟩, ⟨fun h => by cases h⟩, ⟨fun _ => ⟨B2, d2, B3, d3, B6, d6, BO.out⟩⟩⟩
end Go.Proofs.YtpncpefppifgdaaGreatDoor.GUt
