/- law19.Of: a state as the document has it: its contract: rows of its own, the commands shared. No conditions beside those stated. -/
import Derived.Test.YtpflenjhmeaeoaaGreatDoorCp
import Derived.Test.YtpflenjhmeaeoaaGreatDoorGUtOf
namespace Go.Proofs.YtpflenjhmeaeoaaGreatDoor.GUt
open Go.RowKit Go.Proofs.YtpflenjhmeaeoaaGreatDoorW.PrintWords Go.Proofs.YtpflenjhmeaeoaaGreatDoorW.PrintLast Go.Proofs.YtpflenjhmeaeoaaGreatDoorW.PrintMore
set_option linter.unusedVariables false
set_option linter.unusedSimpArgs false
theorem zH : (Tryz.prog.info? 59).map (fun i => (i.zero, i.size, i.bytes)) = some (some (.agg #[.string ⟨#[]⟩, .string ⟨#[]⟩, .string ⟨#[]⟩, .int .i64 0, .int .i64 0, .bool false, .slice none 0 0]), 7, 96) := by kernel_rfl
def bU (x : S51) : S59 := ⟨x.f0, ⟨x.f1.f0, x.f1.f1, x.f1.f2, x.f1.f3, x.f1.f4, x.f1.f5.map iM⟩⟩
def tO (l : List S51) : Prop := l.length * 96 ≤ 140737488355328 ∧ ∀ x ∈ l, wK x.f1.f5
instance (l : List S51) : Decidable (tO l) := by unfold tO; infer_instance
def dx.f (a0 : Int) (l : List S51) : Option (Int × List S59) := if tO l then some (a0, l.map bU) else none
structure OfS (P0 : Nat → Prop) (w W : World) (lim : Nat) (Pc Mc : Array Value) (v : Value) (xs : List S59) : Prop where
  p : W.heap[w.heap.size]? = some (.cells Pc 25 (0, 0))
  r : W.heap[w.heap.size + 1]? = some (.cells #[.int .u64 0, .slice none 0 0] 38 (0, 0))
  m : W.heap[w.heap.size + 2]? = some (.cells Mc 38 (0, 0))
  n : Kd.N k59 59 W w.heap.size (okO P0 w.heap.size lim) v xs
  s : Below w.heap.size w W
  l : lim ≤ W.heap.size
  h : w.heap.size + 3 ≤ lim
section
variable {P0 : Nat → Prop} {w W W1 : World} {lim : Nat} {Pc Mc : Array Value} {v : Value} {xs : List S59}
theorem OfS.below (h : OfS P0 w W lim Pc Mc v xs) (hb : Below W.heap.size W W1) : OfS P0 w W1 lim Pc Mc v xs :=
  ⟨aN h.p hb, aN h.r hb, aN h.m hb, Kd.jL h.n hb, aK h.s hb, Nat.le_trans h.l hb.size, h.h⟩
theorem OfS.lift (h : OfS P0 w W lim Pc Mc v xs) : OfS P0 w W W.heap.size Pc Mc v xs :=
  ⟨h.p, h.r, h.m, Kd.je h.n (fun k hk => hk.elim .inl fun q => .inr ⟨q.1, Nat.lt_of_lt_of_le q.2 h.l⟩), h.s, Nat.le_refl _, Nat.le_trans h.h h.l⟩
theorem OfS.drew (h : OfS P0 w W lim Pc Mc v xs) : OfS P0 w W.drew lim Pc Mc v xs := h.below (iH (Below.refl _ _))
theorem OfS.push {w1 : World} {a0 : Int} {v1 : Value} {ys : List S59} (h : OfS P0 w W lim Pc #[.int .u64 a0, v] v xs)
    (hN : Kd.N k59 59 w1 w.heap.size (okU P0 w.heap.size) v1 ys) (hg : W.grownBy w1 v.ownBlock) : OfS P0 w (w1.setCell ⟨w.heap.size + 2, 1, none⟩ v1) w1.heap.size Pc #[.int .u64 a0, v1] v1 ys := by
  have hh := h.h
  have hl := h.l
  have hs := hg.size
  refine ⟨bL ((hg.block _ (dh h.p) (Kd.o9 h.n h.p (by decide))).trans h.p) (by simp) _, bL ((hg.block _ (dh h.r) (Kd.o9 h.n h.r (by decide))).trans h.r) (by simp) _, bN ((hg.block _ (dh h.m) (Kd.o9 h.n h.m (by decide))).trans h.m) 1 v1 rfl, Kd.ru (Kd.je (Kd.qC hN) (fun k hk => ?_)) (fun k hk => ?_) _, gQ (Below.grown h.s hg (aM h.s) (fun k hk => Kd.qB h.n k hk)) (by omega), by simp [World.setCell], by omega⟩
  · exact hk.1.elim .inl fun q => .inr ⟨q, hk.2⟩
  · rcases hk with hk | hk
    · simp; omega
    · simp; omega
theorem OfS.away (h : OfS P0 w W lim Pc Mc v xs) (k : Nat) (hk : (P0 k ∧ k < w.heap.size) ∨ lim ≤ k) : okU P0 w.heap.size k ∧ some k ≠ v.ownBlock := by
  have hh := h.h
  refine ⟨hk.elim .inl fun q => .inr (by omega), fun e => ?_⟩
  have h1 := Kd.qB h.n k e.symm
  have h2 := h.n.1 k e.symm
  rcases hk with hk | hk
  · omega
  · rcases h2 with h2 | h2
    · omega
    · omega
end
theorem uK (P0 : Nat → Prop) (w : World) (a0 : Int) (v : Value) : OfS P0 w (((w.alloc (.cells #[.int .u64 a0, v] 25)).alloc (.cells #[.int .u64 0, .slice none 0 0] 38)).alloc (.cells #[.int .u64 a0, .slice none 0 0] 38)) (w.heap.size + 3) #[.int .u64 a0, v] #[.int .u64 a0, .slice none 0 0] (.slice none 0 0) [] := by
  refine ⟨aD (aD (heap_alloc_new w _) _) _, aD ?_ _, ?_, Kd.qZ _ _ _ _ _, ((Below.refl _ w).alloc (Nat.le_refl _) _).alloc (by simp) _ |>.alloc (by simp; omega) _, by simp, Nat.le_refl _⟩
  · have q := heap_alloc_new (w.alloc (.cells #[.int .u64 a0, v] 25)) (.cells #[.int .u64 0, .slice none 0 0] 38)
    simpa using q
  · have q := heap_alloc_new ((w.alloc (.cells #[.int .u64 a0, v] 25)).alloc (.cells #[.int .u64 0, .slice none 0 0] 38)) (.cells #[.int .u64 a0, .slice none 0 0] 38)
    simpa using q
theorem AY {W : World} {ok : Nat → Prop} {ad : Addr} {n : Nat} {xs : List S51} (h : Kd.F k51 W ok (some ad) n xs) (i : Int) (h0 : 0 ≤ i) (h1 : i < n) {A2 : Option Addr} {c2 : Nat}
    (hx2 : W.cell? ⟨(ad.add (i.toNat * 7)).block,(ad.add (i.toNat * 7)).off + 6,none⟩ = some (.slice A2 (aC xs i).f1.f5.length c2)) : (aC xs i).f1.f5.length ≤ c2 ∧ Kd.F k69 W ok A2 (aC xs i).f1.f5.length (aC xs i).f1.f5 := by
  obtain ⟨ad', c, he, hcl, hK, hcc, _⟩ := Kd.tF h z51 i h0 h1
  injection he with he
  subst he
  obtain ⟨B6, d6, hc, hl, hF⟩ := gN hK
  have h2 := hcc 6 (.slice B6 (aC xs i).f1.f5.length d6) (by rw [hc]; rfl)
  have e : ad.add (i.toNat * k51.sz + 6) = ⟨(ad.add (i.toNat * 7)).block,(ad.add (i.toNat * 7)).off + 6,none⟩ := by
    exact bT _ _ 6 (by omega)
  rw [e, hx2] at h2
  injection h2 with h2
  injection h2 with e1 _ e3
  subst e1
  subst e3
  exact ⟨hl, hF⟩
theorem zI {W : World} {base : Nat} {ok : Nat → Prop} {x : S51} {Ar : Option Addr} {nr cr : Nat} (h : Kd.V k81 81 W base ok (.slice Ar nr cr) (x.f1.f5.map iM)) : Kd.FK k59 W ok (bU x) [.string x.f0, .string x.f1.f0, .string x.f1.f1, .int .i64 x.f1.f2, .int .i64 x.f1.f3, .bool x.f1.f4, .slice Ar nr cr] := by
  obtain ⟨e, l, hF⟩ := Kd.ou h
  subst e
  exact xJ W ok (bU x) l hF
def dx.T5 : Bool × List (List Nat × List Nat) := (true, [([], []), ([0], [0]), ([], []), ([2], [2]), ([], []), ([4], [4]), ([5], [5]), ([3, 6], [3, 6]), ([7], [7]), ([1, 8, 6], [1, 8]), ([0, 1, 2, 3, 4, 5, 6, 7, 8, 9], []), ([10, 9, 9, 0, 1, 2, 3, 4, 5, 6, 7, 8, 9], [9, 10])])
def dx.B5 : List Nat := [0, 1, 0, 4, 0, 16, 48, 124, 252, 511, 1023, 2047]
theorem dx.qG : gV .any (opsOf Tryz.f10 5) = dx.T5 := by kernel_rfl
theorem dx.mE : fQ dx.T5.2 dx.B5 = true := by kernel_rfl
set_option maxHeartbeats 16000000 in
set_option maxRecDepth 100000 in
theorem dx.calls (a0 : Int) (AZ : Nat → Prop) (A1 : Option Addr) (Bf : Nat) (l : List S51) (r1 : Int) (r2 : List S59) (w : World) (hs0 : Kd.V k51 51 w w.heap.size (fun k_ => AZ k_) (.slice A1 l.length Bf) l) (h : dx.f a0 l = some (r1, r2)) :
    Calls Tryz.prog 10 #[.agg #[.int .u64 a0, .slice A1 l.length Bf]] w fun e w' => ∃ Bg : Value, e = .returned (.agg #[.int .u64 r1, Bg]) ∧ Kd.V k59 59 w' w.heap.size (fun k_ => AZ k_ ∨ w.heap.size ≤ k_) Bg r2 ∧ Below w.heap.size w w' := by
  have hok : tO l := Decidable.by_contra fun hn => by rw [dx.f, if_neg hn] at h; cases h
  rw [dx.f, if_pos hok] at h
  simp only [Option.some.injEq, Prod.mk.injEq] at h
  obtain ⟨rfl, rfl⟩ := h
  have HOK := Aside0.mk hok
  have HF := Aside0.mk (Kd.nL (Kd.V_F hs0))
  have HC := Aside0.mk (Kd.dJ hs0).2.2
  clear hok hs0
  have Bo := Tryz.underlying25
  have Bp := Tryz.underlying38
  have Bq := Tryz.underlying59
  have Br := Tryz.underlying51
  have Bt := Tryz.underlying49
  have Bu := Tryz.underlying57
  have Bj := Aside0.mk (uK AZ w a0 (.slice A1 l.length Bf))
  go_enter Tryz.func10, Tryz.ntmps10
  go_wp2
  go_loopg [12] l.length (fun kq v12 w' => ∃ (i : Nat) (v : Value) (lim : Nat), v12 = .int .i64 (i : Int) ∧ Aside0 (i + kq = l.length) ∧ Aside0 (OfS AZ w w' lim #[.int .u64 a0, .slice A1 l.length Bf] #[.int .u64 a0, v] v ((l.take i).map bU)))
  case atStart => exact ⟨0, _, _, rfl, ⟨by omega⟩, Bj⟩
  case round =>
    clear Bj
    obtain ⟨i, v, Bh, rfl, hi, HO⟩ := hrel
    cases gk with
    | zero =>
      obtain rfl : i = l.length := by have := hi.out; omega
      have hend : decide (((l.length : Nat) : Int) < (l.length : Int)) = false := decide_eq_false (by omega)
      have HO' := HO.out
      rw [List.take_length] at HO'
      replace HO := Aside0.mk HO'
      clear HO' hi
      obtain ⟨Av, nv, cv, ev⟩ : ∃ B n d, v = .slice B n d := (Kd.jC HO.out.n).elim fun A h => h.elim fun c e => ⟨A, _, c, e⟩
      subst ev
      have m0 : wr.cell? ⟨w.heap.size + 1 + 1, 0, none⟩ = some (.int .u64 a0) := (ah HO.out.m 0).trans rfl
      have m1 : wr.cell? ⟨w.heap.size + 1 + 1, 1, none⟩ = some (.slice Av nv cv) := (ah HO.out.m 1).trans rfl
      have r0 : wr.cell? ⟨w.heap.size + 1, 0, none⟩ = some (.int .u64 0) := (ah HO.out.r 0).trans rfl
      have r1 : wr.cell? ⟨w.heap.size + 1, 1, none⟩ = some (.slice none 0 0) := (ah HO.out.r 1).trans rfl
      have s0 := ak HO.out.r 0
      have s1 := ak HO.out.r 1
      go_wp2
      have hl1 : w.heap.size ≤ w.heap.size + 1 := by omega
      refine bodyPost_ret (results_cell_row rfl _ _ (w.heap.size + 1) 38 #[.int .u64 a0, .slice Av nv cv] (0, 0) _ rfl (by refine bN (cs := #[.int .u64 a0, .slice none 0 0]) ?_ 1 _ rfl; refine bN (cs := #[.int .u64 0, .slice none 0 0]) ?_ 0 _ rfl; exact HO.out.r) Tryz.underlying38 rfl (by kernel_rfl)) rfl ?_
      refine ⟨_, rfl, Kd.N_V (base := w.heap.size) (Kd.je (ok := okO AZ w.heap.size Bh) ?_ (fun k hk => hk.elim (fun q => .inl q.1) (fun q => .inr (by omega)))), ?_⟩
      · iterate 2 (refine Kd.ru ?_ (fun k hk => wL hk) _)
        exact HO.out.n
      · iterate 2 (refine gQ ?_ hl1)
        exact HO.out.s
    | succ k1 =>
      replace HO := Aside0.mk HO.out.lift
      have hlt : i < l.length := by have := hi.out; omega
      have c1 : decide ((i : Int) < (l.length : Int)) = true := decide_eq_true (by omega)
      have p1 : 0 ≤ (i : Int) := by omega
      have q1 : (i : Int) < (l.length : Int) := by omega
      obtain ⟨ad, A6, c6, e, hx0, hx1, hx2, hx3, hx4, hx5, hx6, Bl, Bn⟩ := iA HC.out (i : Int) p1 q1
      cases e
      have hcmd := AY HF.out (i : Int) p1 q1 hx6
      have hmem : aC l (i : Int) ∈ l := by
        have e : aC l (i : Int) = l[i] := by simp [aC, List.getElem?_eq_getElem hlt]
        rw [e]; exact List.getElem_mem hlt
      have hsz := HOK.out.2 _ hmem
      have htk : (l.take (i + 1)).map bU = (l.take i).map bU ++ [bU (aC l (i : Int))] := by
        rw [List.take_add_one, List.map_append, List.getElem?_eq_getElem hlt]
        simp [aC, List.getElem?_eq_getElem hlt]
      replace hx0 := (HO.out.s.cell (World.block_lt_of_cell? w _ hx0)).trans hx0
      replace hx1 := (HO.out.s.cell (World.block_lt_of_cell? w _ hx1)).trans hx1
      replace hx2 := (HO.out.s.cell (World.block_lt_of_cell? w _ hx2)).trans hx2
      replace hx3 := (HO.out.s.cell (World.block_lt_of_cell? w _ hx3)).trans hx3
      replace hx4 := (HO.out.s.cell (World.block_lt_of_cell? w _ hx4)).trans hx4
      replace hx5 := (HO.out.s.cell (World.block_lt_of_cell? w _ hx5)).trans hx5
      replace hx6 := (HO.out.s.cell (World.block_lt_of_cell? w _ hx6)).trans hx6
      simp only [Int.toNat_natCast] at hx0 hx1 hx2 hx3 hx4 hx5 hx6
      generalize aC l (i : Int) = x at hx0 hx1 hx2 hx3 hx4 hx5 hx6 Bl Bn hcmd hmem hsz htk
      replace p1 := eq_true p1
      replace q1 := eq_true q1
      have q3 : (i < l.length) = True := eq_true hlt
      have HCM := Aside0.mk hcmd
      have HFO := Aside0.mk (show iB.f x.f1.f0 x.f1.f1 x.f1.f2 x.f1.f3 x.f1.f4 x.f1.f5 = some (x.f1.f0, x.f1.f1, x.f1.f2, x.f1.f3, x.f1.f4, x.f1.f5.map iM) by rw [iB.f, if_pos hsz])
      have HTK := Aside0.mk htk
      have hwv : Value.int .i64 (wrap64 ((i : Int) + 1)) = Value.int .i64 ((i + 1 : Nat) : Int) := by have := Kd.mY HC.out; rw [dG (by omega) (by omega)]; rfl
      have HWV := Aside0.mk hwv
      have hnx : Aside0 (i + 1 + k1 = l.length) := ⟨by have := hi.out; omega⟩
      clear Bl Bn hcmd hmem hsz htk hwv
      have HB1 := (Below.refl wr.heap.size wr).alloc (Nat.le_refl _) (.cells #[.string x.f0, .string x.f1.f0, .string x.f1.f1, .int .i64 x.f1.f2, .int .i64 x.f1.f3, .bool x.f1.f4, .slice A6 x.f1.f5.length c6] 51)
      have HS := Aside0.mk (HO.out.below HB1)
      have HX := Aside0.mk (heap_alloc_new wr (.cells #[.string x.f0, .string x.f1.f0, .string x.f1.f1, .int .i64 x.f1.f2, .int .i64 x.f1.f3, .bool x.f1.f4, .slice A6 x.f1.f5.length c6] 51))
      clear HB1
      go_upto_region 5 with (fail)
      (try simp only [Act.put, List.setIfInBounds_toArray, List.set_cons_zero, List.set_cons_succ])
      clear hx0 hx1 hx2 hx3 hx4 hx5 hx6 c1 p1 q1 q3 hlt HO hi
      generalize World.alloc wr (.cells #[.string x.f0, .string x.f1.f0, .string x.f1.f1, .int .i64 x.f1.f2, .int .i64 x.f1.f3, .bool x.f1.f4, .slice A6 x.f1.f5.length c6] 51) = wA at HS HX ⊢
      generalize wr.heap.size = LIM at HS HX ⊢
      refine fU (n := 12) (S := fun w' => w'.heap[w.heap.size + 2]? = some (.cells #[.int .u64 a0, v] 38 (0, 0)) ∧ w'.heap[LIM]? = some (.cells #[.string x.f0, .string x.f1.f0, .string x.f1.f1, .int .i64 x.f1.f2, .int .i64 x.f1.f3, .bool x.f1.f4, .slice A6 x.f1.f5.length c6] 51 (0, 0))) (ds := [11]) #[false, false, false, false, false, false, false, false, false, false, false, false] (by kernel_rfl) rfl rfl ⟨HS.out.m, HX.out⟩ (fun hHeld => ?_)
      refine dY dx.qG dx.mE (fun HT_ HW_ => ?_)
      replace HS := Aside0.mk HS.out.drew
      replace HX := Aside0.mk (aG HX.out)
      refine pu_ 0 16 #[I,O,O,O,O,O,O,O,O,O,O,O] HT_.out ?_
      refine pu_ 2 18 #[I,O,I,O,O,O,O,O,O,O,O,O] HT_.out ?_
      refine pu_ 4 20 #[I,O,I,O,I,O,O,O,O,O,O,O] HT_.out ?_
      refine iG (i := 1) (N := some 17) (v := ?_) (a' := ?_) #[true, true, true, false, true, false, false, false, false, false, false, false] rfl rfl (fT HT_.out HW_.out (by kernel_rfl)) (fun _ _ _ h => h) (Or.inl ⟨by rfl, ?_⟩) hHeld ?_ ?_
      rotate_left
      · rintro w' ⟨s0, s1⟩
        have em : w'.cell? ⟨w.heap.size + 1 + 1, 1, none⟩ = some v := (ah s0 1).trans rfl
        have e0 : w'.cell? ⟨LIM, 0, none⟩ = some (.string x.f0) := (ah s1 0).trans rfl
        have e1 : w'.cell? ⟨LIM, 1, none⟩ = some (.string x.f1.f0) := (ah s1 1).trans rfl
        have e2 : w'.cell? ⟨LIM, 2, none⟩ = some (.string x.f1.f1) := (ah s1 2).trans rfl
        have e3 : w'.cell? ⟨LIM, 3, none⟩ = some (.int .i64 x.f1.f2) := (ah s1 3).trans rfl
        have e4 : w'.cell? ⟨LIM, 4, none⟩ = some (.int .i64 x.f1.f3) := (ah s1 4).trans rfl
        have e5 : w'.cell? ⟨LIM, 5, none⟩ = some (.bool x.f1.f4) := (ah s1 5).trans rfl
        have e6 : w'.cell? ⟨LIM, 6, none⟩ = some (.slice A6 x.f1.f5.length c6) := (ah s1 6).trans rfl
        go_simp
        with_reducible rfl
      rotate_left
      · simp only [Act.put, List.setIfInBounds_toArray, List.set_cons_zero, List.set_cons_succ, bJ, bM]
        rfl
      refine iG (i := 3) (N := some 19) (v := ?_) (a' := ?_) #[true, true, true, true, true, false, false, false, false, false, false, false] rfl rfl (fT HT_.out HW_.out (by kernel_rfl)) (fun _ _ _ h => h) (Or.inl ⟨by rfl, ?_⟩) hHeld ?_ ?_
      rotate_left
      · rintro w' ⟨s0, s1⟩
        have em : w'.cell? ⟨w.heap.size + 1 + 1, 1, none⟩ = some v := (ah s0 1).trans rfl
        have e0 : w'.cell? ⟨LIM, 0, none⟩ = some (.string x.f0) := (ah s1 0).trans rfl
        have e1 : w'.cell? ⟨LIM, 1, none⟩ = some (.string x.f1.f0) := (ah s1 1).trans rfl
        have e2 : w'.cell? ⟨LIM, 2, none⟩ = some (.string x.f1.f1) := (ah s1 2).trans rfl
        have e3 : w'.cell? ⟨LIM, 3, none⟩ = some (.int .i64 x.f1.f2) := (ah s1 3).trans rfl
        have e4 : w'.cell? ⟨LIM, 4, none⟩ = some (.int .i64 x.f1.f3) := (ah s1 4).trans rfl
        have e5 : w'.cell? ⟨LIM, 5, none⟩ = some (.bool x.f1.f4) := (ah s1 5).trans rfl
        have e6 : w'.cell? ⟨LIM, 6, none⟩ = some (.slice A6 x.f1.f5.length c6) := (ah s1 6).trans rfl
        go_simp
        with_reducible rfl
      rotate_left
      · simp only [Act.put, List.setIfInBounds_toArray, List.set_cons_zero, List.set_cons_succ, bJ, bM]
        rfl
      refine iG (i := 5) (N := some 21) (v := ?_) (a' := ?_) #[true, true, true, true, true, true, false, false, false, false, false, false] rfl rfl (fT HT_.out HW_.out (by kernel_rfl)) (fun _ _ _ h => h) (Or.inl ⟨by rfl, ?_⟩) hHeld ?_ ?_
      rotate_left
      · rintro w' ⟨s0, s1⟩
        have em : w'.cell? ⟨w.heap.size + 1 + 1, 1, none⟩ = some v := (ah s0 1).trans rfl
        have e0 : w'.cell? ⟨LIM, 0, none⟩ = some (.string x.f0) := (ah s1 0).trans rfl
        have e1 : w'.cell? ⟨LIM, 1, none⟩ = some (.string x.f1.f0) := (ah s1 1).trans rfl
        have e2 : w'.cell? ⟨LIM, 2, none⟩ = some (.string x.f1.f1) := (ah s1 2).trans rfl
        have e3 : w'.cell? ⟨LIM, 3, none⟩ = some (.int .i64 x.f1.f2) := (ah s1 3).trans rfl
        have e4 : w'.cell? ⟨LIM, 4, none⟩ = some (.int .i64 x.f1.f3) := (ah s1 4).trans rfl
        have e5 : w'.cell? ⟨LIM, 5, none⟩ = some (.bool x.f1.f4) := (ah s1 5).trans rfl
        have e6 : w'.cell? ⟨LIM, 6, none⟩ = some (.slice A6 x.f1.f5.length c6) := (ah s1 6).trans rfl
        go_simp
        with_reducible rfl
      rotate_left
      · simp only [Act.put, List.setIfInBounds_toArray, List.set_cons_zero, List.set_cons_succ, bJ, bM]
        rfl
      refine gq (i := 6) (N := some 22) #[true, true, true, true, true, true, true, false, false, false, false, false] rfl rfl (dD HT_.out (by kernel_rfl)) (by decide) (fun K hK => ?_)
      refine eX Tryz.func22 (by kernel_rfl) rfl #[.agg #[.string x.f1.f0, .string x.f1.f1, .int .i64 x.f1.f2, .int .i64 x.f1.f3, .bool x.f1.f4, .slice A6 x.f1.f5.length c6]] (by rfl) rfl rfl (by (try simp only [List.map_toArray, List.map_cons, List.map_nil]); first | done | rfl) ?_
      refine (iB.calls (fun k => AZ k ∧ k < w.heap.size) x.f1.f0 x.f1.f1 x.f1.f2 x.f1.f3 x.f1.f4 A6 c6 x.f1.f5 x.f1.f0 x.f1.f1 x.f1.f2 x.f1.f3 x.f1.f4 (x.f1.f5.map iM) _ (Kd.iV HCM.out.1 (Kd.jB HCM.out.2 HS.out.s)) HFO.out).mono ?_
      rintro e w5 ⟨vr, rfl, hV, hb⟩
      obtain ⟨Ar, nr, cr, er⟩ : ∃ B n d, vr = .slice B n d := (Kd.gG hV).elim fun A h => h.elim fun c e => ⟨A, _, c, e⟩
      subst er
      refine ⟨_, rfl, ?_⟩
      have HV := Aside0.mk (Kd.eG (ok' := (fun k => (AZ k ∧ k < w.heap.size) ∨ LIM ≤ k)) hV (fun k hk => hk.elim .inl fun q => .inr (Nat.le_trans HS.out.l q)))
      replace HX := Aside0.mk (aN HX.out hb)
      replace HS := Aside0.mk (HS.out.below hb)
      clear hb hV
      refine hK.out _ _ ⟨HS.out.m, HX.out⟩ (fun hHeld => ?_)
      clear hK K
      refine dW (a' := ?_) ?_ ?_
      rotate_left
      · show Act.put _ (some 22) _ = _
        simp only [Act.put, List.setIfInBounds_toArray, List.set_cons_zero, List.set_cons_succ, bJ, bM]
        rfl
      refine pu_ 7 23 #[I,I,I,I,I,I,I,I,O,O,O,O] HT_.out ?_
      refine gq (i := 8) (N := some 24) #[true, true, true, true, true, true, true, true, true, false, false, false] rfl rfl (dD HT_.out (by kernel_rfl)) (by decide) (fun K hK => ?_)
      refine Kd.sj k59 (w0 := w) w.heap.size 59 ?hg (N' := 24) ?hd (xs := [bU x]) (inner := [.string x.f0, .string x.f1.f0, .string x.f1.f1, .int .i64 x.f1.f2, .int .i64 x.f1.f3, .bool x.f1.f4, .slice Ar nr cr]) (ok := (fun k => (AZ k ∧ k < w.heap.size) ∨ LIM ≤ k)) (okp := (fun k => (AZ k ∧ k < w.heap.size) ∨ LIM ≤ k)) ?hr ?hp (fun _ hk => hk) (.inr HS.out.l) HS.out.s HS.out.s.size (by simp) ?_
      (case hd => rfl)
      (case hg => rfl)
      (case hr => first | (go_simp; done) | (go_simp; rfl))
      (case hp => exact dX.c7 (zI HV.out) (dX.none _ _))
      intro v24 wb hn hb_ hg_ hnew_
      have hb2 := (Below.refl _ _).grown hg_ (Nat.le_refl _) (fun _ h => by cases h)
      clear hb_ hg_ hnew_
      replace HX := Aside0.mk (aN HX.out hb2)
      replace HS := Aside0.mk (HS.out.below hb2)
      have LX := Aside0.mk hn
      clear hn hb2 HV
      obtain ⟨Ax, cx, ex⟩ := Kd.jC LX.out
      subst ex
      refine hK.out _ _ ⟨HS.out.m, HX.out⟩ (fun hHeld => ?_)
      clear hK K
      refine dW (a' := ?_) ?_ ?_
      rotate_left
      · show Act.put _ (some 24) _ = _
        simp only [Act.put, List.setIfInBounds_toArray, List.set_cons_zero, List.set_cons_succ, bJ, bM]
        rfl
      refine gq (i := 9) (N := some 25) #[true, true, true, true, true, true, true, true, true, true, false, false] rfl rfl (dD HT_.out (by kernel_rfl)) (by decide) (fun K hK => ?_)
      refine Kd.lK k59 (w0 := w) w.heap.size (by rfl) (.tmp 17) (.tmp 24) 36 59 _ 96 rfl Tryz.underlying36 zH rfl (by decide) (by omega) v ((l.take i).map bU) [bU x] Ax [bU x].length cx (okU AZ w.heap.size) (fun k => (AZ k ∧ k < w.heap.size) ∨ LIM ≤ k) rfl rfl (Kd.je (ok' := okU AZ w.heap.size) HS.out.n (fun k hk => hk.elim .inl fun q => .inr q.1)) (Kd.N_F LX.out) (fun k hk => HS.out.away k hk) (fun k hk => .inr (Nat.le_trans HS.out.h (Nat.le_trans HS.out.l hk))) HS.out.s HS.out.s.size (by have := HOK.out.1; have := hnx.out; simp; omega) ?_
      intro Bg wc hN hB hg hat
      obtain ⟨An, cn, en⟩ := Kd.jC hN
      obtain ⟨ln, hln⟩ : ∃ n, ((l.take i).map bU ++ [bU x]).length = n := ⟨_, rfl⟩
      rw [hln] at en
      subst en
      have HM := Aside0.mk ((hg.block _ (dh HS.out.m) (Kd.o9 HS.out.n HS.out.m (by decide))).trans HS.out.m)
      replace HX := Aside0.mk ((hg.block _ (dh HX.out) (Kd.o9 HS.out.n HX.out (by decide))).trans HX.out)
      have HP := Aside0.mk (HS.out.push hN hg)
      clear hN hB hg hat hln LX HS
      refine hK.out _ _ ⟨HM.out, HX.out⟩ (fun hHeld => ?_)
      clear hK K
      refine dW (a' := ?_) ?_ ?_
      rotate_left
      · show Act.put _ (some 25) _ = _
        simp only [Act.put, List.setIfInBounds_toArray, List.set_cons_zero, List.set_cons_succ, bJ, bM]
        rfl
      refine pu_ 10 26 #[I,I,I,I,I,I,I,I,I,I,I,O] HT_.out ?_
      refine jT (i := 11) (N := none) #[true, true, true, true, true, true, true, true, true, true, true, true] rfl rfl (dD HT_.out (by kernel_rfl)) (by decide) (fun K hK => ?_)
      have z : wc.cell? ⟨w.heap.size + 1 + 1, 1, none⟩ = some v := (ah HM.out 1).trans rfl
      have f : wc.frozen? ⟨w.heap.size + 1 + 1, 1, none⟩ = false := ak HM.out 1
      refine l8 (w1 := ?_) (by rfl) rfl ?_ ?_
      rotate_left
      · go_simp
        rfl
      clear z f
      refine hK.out _ _ ?_
      clear hK K
      refine gP (fF HT_.out (by kernel_rfl)) ?_
      go_wp2
      go_roundg k1
      case measure => exact Nat.lt_succ_self k1
      case rel => exact ⟨i + 1, _, _, by first | exact HWV.out | rfl, hnx, ⟨HTK.out ▸ HP.out⟩⟩
end Go.Proofs.YtpflenjhmeaeoaaGreatDoor.GUt
