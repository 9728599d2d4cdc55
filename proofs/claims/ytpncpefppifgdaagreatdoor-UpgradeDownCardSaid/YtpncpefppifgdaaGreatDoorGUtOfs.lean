/- law19.Of: a state as the document has it: its contract: rows of its own, the commands shared. No conditions beside those stated. -/
import Derived.Test.YtpncpefppifgdaaGreatDoorCp
import Derived.Test.YtpncpefppifgdaaGreatDoorGUtOf
namespace Go.Proofs.YtpncpefppifgdaaGreatDoor.GUt
open Go.RowKit Go.Proofs.YtpncpefppifgdaaGreatDoorW.PrintWords Go.Proofs.YtpncpefppifgdaaGreatDoorW.PrintLast Go.Proofs.YtpncpefppifgdaaGreatDoorW.PrintMore
set_option linter.unusedVariables false
set_option linter.unusedSimpArgs false
theorem zS : (Tryz.prog.info? 96).map (fun i => (i.zero, i.size, i.bytes)) = some (some (.agg #[.string ⟨#[]⟩, .string ⟨#[]⟩, .string ⟨#[]⟩, .int .i64 0, .int .i64 0, .bool false, .slice none 0 0]), 7, 96) := by kernel_rfl
def iM (x : S79) : S96 := ⟨x.f0, ⟨x.f1.f0, x.f1.f1, x.f1.f2, x.f1.f3, x.f1.f4, x.f1.f5.map iH⟩⟩
def tQ (l : List S79) : Prop := l.length * 96 ≤ 140737488355328 ∧ ∀ x ∈ l, wP x.f1.f5
instance (l : List S79) : Decidable (tQ l) := by unfold tQ; infer_instance
def dn.f (a0 : Int) (l : List S79) : Option (Int × List S96) := if tQ l then some (a0, l.map iM) else none
structure OfS (P0 : Nat → Prop) (w W : World) (lim : Nat) (Pc Mc : Array Value) (v : Value) (xs : List S96) : Prop where
  p : W.heap[w.heap.size]? = some (.cells Pc 51 (0, 0))
  r : W.heap[w.heap.size + 1]? = some (.cells #[.int .u64 0, .slice none 0 0] 47 (0, 0))
  m : W.heap[w.heap.size + 2]? = some (.cells Mc 47 (0, 0))
  n : Kd.N k96 96 W w.heap.size (okO P0 w.heap.size lim) v xs
  s : Below w.heap.size w W
  l : lim ≤ W.heap.size
  h : w.heap.size + 3 ≤ lim
section
variable {P0 : Nat → Prop} {w W W1 : World} {lim : Nat} {Pc Mc : Array Value} {v : Value} {xs : List S96}
theorem OfS.below (h : OfS P0 w W lim Pc Mc v xs) (hb : Below W.heap.size W W1) : OfS P0 w W1 lim Pc Mc v xs :=
  ⟨aJ h.p hb, aJ h.r hb, aJ h.m hb, Kd.jR h.n hb, aN h.s hb, Nat.le_trans h.l hb.size, h.h⟩
theorem OfS.lift (h : OfS P0 w W lim Pc Mc v xs) : OfS P0 w W W.heap.size Pc Mc v xs :=
  ⟨h.p, h.r, h.m, Kd.kE h.n (fun k hk => hk.elim .inl fun q => .inr ⟨q.1, Nat.lt_of_lt_of_le q.2 h.l⟩), h.s, Nat.le_refl _, Nat.le_trans h.h h.l⟩
theorem OfS.drew (h : OfS P0 w W lim Pc Mc v xs) : OfS P0 w W.drew lim Pc Mc v xs := h.below (iU (Below.refl _ _))
theorem OfS.push {w1 : World} {a0 : Int} {v1 : Value} {ys : List S96} (h : OfS P0 w W lim Pc #[.int .u64 a0, v] v xs)
    (hN : Kd.N k96 96 w1 w.heap.size (okU P0 w.heap.size) v1 ys) (hg : W.grownBy w1 v.ownBlock) : OfS P0 w (w1.setCell ⟨w.heap.size + 2, 1, none⟩ v1) w1.heap.size Pc #[.int .u64 a0, v1] v1 ys := by
  have hh := h.h
  have hl := h.l
  have hs := hg.size
  refine ⟨aD ((hg.block _ (aW h.p) (Kd.o7 h.n h.p (by decide))).trans h.p) (by simp) _, aD ((hg.block _ (aW h.r) (Kd.o7 h.n h.r (by decide))).trans h.r) (by simp) _, aQ ((hg.block _ (aW h.m) (Kd.o7 h.n h.m (by decide))).trans h.m) 1 v1 rfl, Kd.pQ (Kd.kE (Kd.sW hN) (fun k hk => ?_)) (fun k hk => ?_) _, eu (Below.grown h.s hg (aR h.s) (fun k hk => Kd.qz h.n k hk)) (by omega), by simp [World.setCell], by omega⟩
  · exact hk.1.elim .inl fun q => .inr ⟨q, hk.2⟩
  · rcases hk with hk | hk
    · simp; omega
    · simp; omega
theorem OfS.away (h : OfS P0 w W lim Pc Mc v xs) (k : Nat) (hk : (P0 k ∧ k < w.heap.size) ∨ lim ≤ k) : okU P0 w.heap.size k ∧ some k ≠ v.ownBlock := by
  have hh := h.h
  refine ⟨hk.elim .inl fun q => .inr (by omega), fun e => ?_⟩
  have h1 := Kd.qz h.n k e.symm
  have h2 := h.n.1 k e.symm
  rcases hk with hk | hk
  · omega
  · rcases h2 with h2 | h2
    · omega
    · omega
end
theorem uL (P0 : Nat → Prop) (w : World) (a0 : Int) (v : Value) : OfS P0 w (((w.alloc (.cells #[.int .u64 a0, v] 51)).alloc (.cells #[.int .u64 0, .slice none 0 0] 47)).alloc (.cells #[.int .u64 a0, .slice none 0 0] 47)) (w.heap.size + 3) #[.int .u64 a0, v] #[.int .u64 a0, .slice none 0 0] (.slice none 0 0) [] := by
  refine ⟨ak (ak (heap_alloc_new w _) _) _, ak ?_ _, ?_, Kd.jw _ _ _ _ _, ((Below.refl _ w).alloc (Nat.le_refl _) _).alloc (by simp) _ |>.alloc (by simp; omega) _, by simp, Nat.le_refl _⟩
  · have q := heap_alloc_new (w.alloc (.cells #[.int .u64 a0, v] 51)) (.cells #[.int .u64 0, .slice none 0 0] 47)
    simpa using q
  · have q := heap_alloc_new ((w.alloc (.cells #[.int .u64 a0, v] 51)).alloc (.cells #[.int .u64 0, .slice none 0 0] 47)) (.cells #[.int .u64 a0, .slice none 0 0] 47)
    simpa using q
theorem Br {W : World} {ok : Nat → Prop} {ad : Addr} {n : Nat} {xs : List S79} (h : Kd.F k79 W ok (some ad) n xs) (i : Int) (h0 : 0 ≤ i) (h1 : i < n) {A2 : Option Addr} {c2 : Nat}
    (hx2 : W.cell? ⟨(ad.add (i.toNat * 7)).block,(ad.add (i.toNat * 7)).off + 6,none⟩ = some (.slice A2 (aG xs i).f1.f5.length c2)) : (aG xs i).f1.f5.length ≤ c2 ∧ Kd.F k84 W ok A2 (aG xs i).f1.f5.length (aG xs i).f1.f5 := by
  obtain ⟨ad', c, he, hcl, hK, hcc, _⟩ := Kd.sV h z79 i h0 h1
  injection he with he
  subst he
  obtain ⟨B6, d6, hc, hl, hF⟩ := pU hK
  have h2 := hcc 6 (.slice B6 (aG xs i).f1.f5.length d6) (by rw [hc]; rfl)
  have e : ad.add (i.toNat * k79.sz + 6) = ⟨(ad.add (i.toNat * 7)).block,(ad.add (i.toNat * 7)).off + 6,none⟩ := by
    exact bM _ _ 6 (by omega)
  rw [e, hx2] at h2
  injection h2 with h2
  injection h2 with e1 _ e3
  subst e1
  subst e3
  exact ⟨hl, hF⟩
theorem zT {W : World} {base : Nat} {ok : Nat → Prop} {x : S79} {Ar : Option Addr} {nr cr : Nat} (h : Kd.V kV 106 W base ok (.slice Ar nr cr) (x.f1.f5.map iH)) : Kd.FK k96 W ok (iM x) [.string x.f0, .string x.f1.f0, .string x.f1.f1, .int .i64 x.f1.f2, .int .i64 x.f1.f3, .bool x.f1.f4, .slice Ar nr cr] := by
  obtain ⟨e, l, hF⟩ := Kd.qV h
  subst e
  exact xI W ok (iM x) l hF
def dn.T5 : Bool × List (List Nat × List Nat) := (true, [([], []), ([0], [0]), ([], []), ([2], [2]), ([], []), ([4], [4]), ([5], [5]), ([3, 6], [3, 6]), ([7], [7]), ([1, 8, 6], [1, 8]), ([0, 1, 2, 3, 4, 5, 6, 7, 8, 9], []), ([10, 9, 9, 0, 1, 2, 3, 4, 5, 6, 7, 8, 9], [9, 10])])
def dn.B5 : List Nat := [0, 1, 0, 4, 0, 16, 48, 124, 252, 511, 1023, 2047]
theorem dn.qB : gT .any (opsOf Tryz.f15 5) = dn.T5 := by kernel_rfl
theorem dn.mK : fO dn.T5.2 dn.B5 = true := by kernel_rfl
set_option maxHeartbeats 16000000 in
set_option maxRecDepth 100000 in
theorem dn.calls (a0 : Int) (Bw : Nat → Prop) (A1 : Option Addr) (Bz : Nat) (l : List S79) (r1 : Int) (r2 : List S96) (w : World) (hs0 : Kd.V k79 79 w w.heap.size (fun k_ => Bw k_) (.slice A1 l.length Bz) l) (h : dn.f a0 l = some (r1, r2)) :
    Calls Tryz.prog 15 #[.agg #[.int .u64 a0, .slice A1 l.length Bz]] w fun e w' => ∃ BD : Value, e = .returned (.agg #[.int .u64 r1, BD]) ∧ Kd.V k96 96 w' w.heap.size (fun k_ => Bw k_ ∨ w.heap.size ≤ k_) BD r2 ∧ Below w.heap.size w w' := by
  have hok : tQ l := Decidable.by_contra fun hn => by rw [dn.f, if_neg hn] at h; cases h
  rw [dn.f, if_pos hok] at h
  simp only [Option.some.injEq, Prod.mk.injEq] at h
  obtain ⟨rfl, rfl⟩ := h
  have HOK := Aside0.mk hok
  have HF := Aside0.mk (Kd.nQ (Kd.V_F hs0))
  have HC := Aside0.mk (Kd.d9 hs0).2.2
  clear hok hs0
  have BJ := Tryz.underlying51
  have BK := Tryz.underlying47
  have BL := Tryz.underlying96
  have BN := Tryz.underlying79
  have BO := Tryz.underlying77
  have BP := Tryz.underlying94
  have BG := Aside0.mk (uL Bw w a0 (.slice A1 l.length Bz))
  go_enter Tryz.func15, Tryz.ntmps15
  go_wp2
  go_loopg [12] l.length (fun kq v12 w' => ∃ (i : Nat) (v : Value) (lim : Nat), v12 = .int .i64 (i : Int) ∧ Aside0 (i + kq = l.length) ∧ Aside0 (OfS Bw w w' lim #[.int .u64 a0, .slice A1 l.length Bz] #[.int .u64 a0, v] v ((l.take i).map iM)))
  case atStart => exact ⟨0, _, _, rfl, ⟨by omega⟩, BG⟩
  case round =>
    clear BG
    obtain ⟨i, v, BF, rfl, hi, HO⟩ := hrel
    cases gk with
    | zero =>
      obtain rfl : i = l.length := by have := hi.out; omega
      have hend : decide (((l.length : Nat) : Int) < (l.length : Int)) = false := decide_eq_false (by omega)
      have HO' := HO.out
      rw [List.take_length] at HO'
      replace HO := Aside0.mk HO'
      clear HO' hi
      obtain ⟨Av, nv, cv, ev⟩ : ∃ B n d, v = .slice B n d := (Kd.iR HO.out.n).elim fun A h => h.elim fun c e => ⟨A, _, c, e⟩
      subst ev
      have m0 : wr.cell? ⟨w.heap.size + 1 + 1, 0, none⟩ = some (.int .u64 a0) := (ah HO.out.m 0).trans rfl
      have m1 : wr.cell? ⟨w.heap.size + 1 + 1, 1, none⟩ = some (.slice Av nv cv) := (ah HO.out.m 1).trans rfl
      have r0 : wr.cell? ⟨w.heap.size + 1, 0, none⟩ = some (.int .u64 0) := (ah HO.out.r 0).trans rfl
      have r1 : wr.cell? ⟨w.heap.size + 1, 1, none⟩ = some (.slice none 0 0) := (ah HO.out.r 1).trans rfl
      have s0 := av HO.out.r 0
      have s1 := av HO.out.r 1
      go_wp2
      have hl1 : w.heap.size ≤ w.heap.size + 1 := by omega
      refine bodyPost_ret (results_cell_row rfl _ _ (w.heap.size + 1) 47 #[.int .u64 a0, .slice Av nv cv] (0, 0) _ rfl (by refine aQ (cs := #[.int .u64 a0, .slice none 0 0]) ?_ 1 _ rfl; refine aQ (cs := #[.int .u64 0, .slice none 0 0]) ?_ 0 _ rfl; exact HO.out.r) Tryz.underlying47 rfl (by kernel_rfl)) rfl ?_
      refine ⟨_, rfl, Kd.N_V (base := w.heap.size) (Kd.kE (ok := okO Bw w.heap.size BF) ?_ (fun k hk => hk.elim (fun q => .inl q.1) (fun q => .inr (by omega)))), ?_⟩
      · iterate 2 (refine Kd.pQ ?_ (fun k hk => wQ hk) _)
        exact HO.out.n
      · iterate 2 (refine eu ?_ hl1)
        exact HO.out.s
    | succ k1 =>
      replace HO := Aside0.mk HO.out.lift
      have hlt : i < l.length := by have := hi.out; omega
      have c1 : decide ((i : Int) < (l.length : Int)) = true := decide_eq_true (by omega)
      have p1 : 0 ≤ (i : Int) := by omega
      have q1 : (i : Int) < (l.length : Int) := by omega
      obtain ⟨ad, A6, c6, e, hx0, hx1, hx2, hx3, hx4, hx5, hx6, BH, BI⟩ := kT HC.out (i : Int) p1 q1
      cases e
      have hcmd := Br HF.out (i : Int) p1 q1 hx6
      have hmem : aG l (i : Int) ∈ l := by
        have e : aG l (i : Int) = l[i] := by simp [aG, List.getElem?_eq_getElem hlt]
        rw [e]; exact List.getElem_mem hlt
      have hsz := HOK.out.2 _ hmem
      have htk : (l.take (i + 1)).map iM = (l.take i).map iM ++ [iM (aG l (i : Int))] := by
        rw [List.take_add_one, List.map_append, List.getElem?_eq_getElem hlt]
        simp [aG, List.getElem?_eq_getElem hlt]
      replace hx0 := (HO.out.s.cell (World.block_lt_of_cell? w _ hx0)).trans hx0
      replace hx1 := (HO.out.s.cell (World.block_lt_of_cell? w _ hx1)).trans hx1
      replace hx2 := (HO.out.s.cell (World.block_lt_of_cell? w _ hx2)).trans hx2
      replace hx3 := (HO.out.s.cell (World.block_lt_of_cell? w _ hx3)).trans hx3
      replace hx4 := (HO.out.s.cell (World.block_lt_of_cell? w _ hx4)).trans hx4
      replace hx5 := (HO.out.s.cell (World.block_lt_of_cell? w _ hx5)).trans hx5
      replace hx6 := (HO.out.s.cell (World.block_lt_of_cell? w _ hx6)).trans hx6
      simp only [Int.toNat_natCast] at hx0 hx1 hx2 hx3 hx4 hx5 hx6
      generalize aG l (i : Int) = x at hx0 hx1 hx2 hx3 hx4 hx5 hx6 BH BI hcmd hmem hsz htk
      replace p1 := eq_true p1
      replace q1 := eq_true q1
      have q3 : (i < l.length) = True := eq_true hlt
      have HCM := Aside0.mk hcmd
      have HFO := Aside0.mk (show gQ.f x.f1.f0 x.f1.f1 x.f1.f2 x.f1.f3 x.f1.f4 x.f1.f5 = some (x.f1.f0, x.f1.f1, x.f1.f2, x.f1.f3, x.f1.f4, x.f1.f5.map iH) by rw [gQ.f, if_pos hsz])
      have HTK := Aside0.mk htk
      have hwv : Value.int .i64 (wrap64 ((i : Int) + 1)) = Value.int .i64 ((i + 1 : Nat) : Int) := by have := Kd.jX HC.out; rw [bW (by omega) (by omega)]; rfl
      have HWV := Aside0.mk hwv
      have hnx : Aside0 (i + 1 + k1 = l.length) := ⟨by have := hi.out; omega⟩
      clear BH BI hcmd hmem hsz htk hwv
      have HB1 := (Below.refl wr.heap.size wr).alloc (Nat.le_refl _) (.cells #[.string x.f0, .string x.f1.f0, .string x.f1.f1, .int .i64 x.f1.f2, .int .i64 x.f1.f3, .bool x.f1.f4, .slice A6 x.f1.f5.length c6] 79)
      have HS := Aside0.mk (HO.out.below HB1)
      have HX := Aside0.mk (heap_alloc_new wr (.cells #[.string x.f0, .string x.f1.f0, .string x.f1.f1, .int .i64 x.f1.f2, .int .i64 x.f1.f3, .bool x.f1.f4, .slice A6 x.f1.f5.length c6] 79))
      clear HB1
      go_upto_region 5 with (fail)
      (try simp only [Act.put, List.setIfInBounds_toArray, List.set_cons_zero, List.set_cons_succ])
      clear hx0 hx1 hx2 hx3 hx4 hx5 hx6 c1 p1 q1 q3 hlt HO hi
      generalize World.alloc wr (.cells #[.string x.f0, .string x.f1.f0, .string x.f1.f1, .int .i64 x.f1.f2, .int .i64 x.f1.f3, .bool x.f1.f4, .slice A6 x.f1.f5.length c6] 79) = wA at HS HX ⊢
      generalize wr.heap.size = LIM at HS HX ⊢
      refine gZ (n := 12) (S := fun w' => w'.heap[w.heap.size + 2]? = some (.cells #[.int .u64 a0, v] 47 (0, 0)) ∧ w'.heap[LIM]? = some (.cells #[.string x.f0, .string x.f1.f0, .string x.f1.f1, .int .i64 x.f1.f2, .int .i64 x.f1.f3, .bool x.f1.f4, .slice A6 x.f1.f5.length c6] 79 (0, 0))) (ds := [11]) #[O,O,O,O,O,O,O,O,O,O,O,O] (by kernel_rfl) rfl rfl ⟨HS.out.m, HX.out⟩ (fun hHeld => ?_)
      refine eY dn.qB dn.mK (fun HT_ HW_ => ?_)
      replace HS := Aside0.mk HS.out.drew
      replace HX := Aside0.mk (ay HX.out)
      refine pu_ 0 16 #[I,O,O,O,O,O,O,O,O,O,O,O] HT_.out ?_
      refine pu_ 2 18 #[I,O,I,O,O,O,O,O,O,O,O,O] HT_.out ?_
      refine pu_ 4 20 #[I,O,I,O,I,O,O,O,O,O,O,O] HT_.out ?_
      refine gy (i := 1) (N := some 17) (v := ?_) (a' := ?_) #[I,I,I,O,I,O,O,O,O,O,O,O] rfl rfl (dR HT_.out HW_.out (by kernel_rfl)) (fun _ _ _ h => h) (Or.inl ⟨by rfl, ?_⟩) hHeld ?_ ?_
      rotate_left
      · rintro w' ⟨s0, s1⟩
        have em : w'.cell? ⟨w.heap.size + 1 + 1, 1, none⟩ = some v := (ah s0 1).trans rfl
        have e0 : w'.cell? ⟨LIM, 0, none⟩ = some (.string x.f0) := (ah s1 0).trans rfl
        have e1 : w'.cell? ⟨LIM, 1, none⟩ = some (.string x.f1.f0) := (ah s1 1).trans rfl
        have e2 : w'.cell? ⟨LIM, 2, none⟩ = some (.string x.f1.f1) := (ah s1 2).trans rfl
        have e3 : w'.cell? ⟨LIM, 3, none⟩ = some (.int .i64 x.f1.f2) := (ah s1 3).trans rfl
        have e4 : w'.cell? ⟨LIM, 4, none⟩ = some (.int .i64 x.f1.f3) := (ah s1 4).trans rfl
        have e5 : w'.cell? ⟨LIM, 5, none⟩ = some (.bool x.f1.f4) := (ah s1 5).trans rfl
        have e6 : w'.cell? ⟨LIM, 6, none⟩ = some (.slice A6 x.f1.f5.length c6) := (ah s1 6).trans rfl
        go_simp
        with_reducible rfl
      rotate_left
      · simp only [Act.put, List.setIfInBounds_toArray, List.set_cons_zero, List.set_cons_succ, bO, bR]
        rfl
      refine gy (i := 3) (N := some 19) (v := ?_) (a' := ?_) #[I,I,I,I,I,O,O,O,O,O,O,O] rfl rfl (dR HT_.out HW_.out (by kernel_rfl)) (fun _ _ _ h => h) (Or.inl ⟨by rfl, ?_⟩) hHeld ?_ ?_
      rotate_left
      · rintro w' ⟨s0, s1⟩
        have em : w'.cell? ⟨w.heap.size + 1 + 1, 1, none⟩ = some v := (ah s0 1).trans rfl
        have e0 : w'.cell? ⟨LIM, 0, none⟩ = some (.string x.f0) := (ah s1 0).trans rfl
        have e1 : w'.cell? ⟨LIM, 1, none⟩ = some (.string x.f1.f0) := (ah s1 1).trans rfl
        have e2 : w'.cell? ⟨LIM, 2, none⟩ = some (.string x.f1.f1) := (ah s1 2).trans rfl
        have e3 : w'.cell? ⟨LIM, 3, none⟩ = some (.int .i64 x.f1.f2) := (ah s1 3).trans rfl
        have e4 : w'.cell? ⟨LIM, 4, none⟩ = some (.int .i64 x.f1.f3) := (ah s1 4).trans rfl
        have e5 : w'.cell? ⟨LIM, 5, none⟩ = some (.bool x.f1.f4) := (ah s1 5).trans rfl
        have e6 : w'.cell? ⟨LIM, 6, none⟩ = some (.slice A6 x.f1.f5.length c6) := (ah s1 6).trans rfl
        go_simp
        with_reducible rfl
      rotate_left
      · simp only [Act.put, List.setIfInBounds_toArray, List.set_cons_zero, List.set_cons_succ, bO, bR]
        rfl
      refine gy (i := 5) (N := some 21) (v := ?_) (a' := ?_) #[I,I,I,I,I,I,O,O,O,O,O,O] rfl rfl (dR HT_.out HW_.out (by kernel_rfl)) (fun _ _ _ h => h) (Or.inl ⟨by rfl, ?_⟩) hHeld ?_ ?_
      rotate_left
      · rintro w' ⟨s0, s1⟩
        have em : w'.cell? ⟨w.heap.size + 1 + 1, 1, none⟩ = some v := (ah s0 1).trans rfl
        have e0 : w'.cell? ⟨LIM, 0, none⟩ = some (.string x.f0) := (ah s1 0).trans rfl
        have e1 : w'.cell? ⟨LIM, 1, none⟩ = some (.string x.f1.f0) := (ah s1 1).trans rfl
        have e2 : w'.cell? ⟨LIM, 2, none⟩ = some (.string x.f1.f1) := (ah s1 2).trans rfl
        have e3 : w'.cell? ⟨LIM, 3, none⟩ = some (.int .i64 x.f1.f2) := (ah s1 3).trans rfl
        have e4 : w'.cell? ⟨LIM, 4, none⟩ = some (.int .i64 x.f1.f3) := (ah s1 4).trans rfl
        have e5 : w'.cell? ⟨LIM, 5, none⟩ = some (.bool x.f1.f4) := (ah s1 5).trans rfl
        have e6 : w'.cell? ⟨LIM, 6, none⟩ = some (.slice A6 x.f1.f5.length c6) := (ah s1 6).trans rfl
        go_simp
        with_reducible rfl
      rotate_left
      · simp only [Act.put, List.setIfInBounds_toArray, List.set_cons_zero, List.set_cons_succ, bO, bR]
        rfl
      refine fU (i := 6) (N := some 22) #[I,I,I,I,I,I,I,O,O,O,O,O] rfl rfl (cO HT_.out (by kernel_rfl)) (by decide) (fun K hK => ?_)
      refine eU Tryz.func32 (by kernel_rfl) rfl #[.agg #[.string x.f1.f0, .string x.f1.f1, .int .i64 x.f1.f2, .int .i64 x.f1.f3, .bool x.f1.f4, .slice A6 x.f1.f5.length c6]] (by rfl) rfl rfl (by (try simp only [List.map_toArray, List.map_cons, List.map_nil]); first | done | rfl) ?_
      refine (gQ.calls (fun k => Bw k ∧ k < w.heap.size) x.f1.f0 x.f1.f1 x.f1.f2 x.f1.f3 x.f1.f4 A6 c6 x.f1.f5 x.f1.f0 x.f1.f1 x.f1.f2 x.f1.f3 x.f1.f4 (x.f1.f5.map iH) _ (Kd.mH HCM.out.1 (Kd.jQ HCM.out.2 HS.out.s)) HFO.out).mono ?_
      rintro e w5 ⟨vr, rfl, hV, hb⟩
      obtain ⟨Ar, nr, cr, er⟩ : ∃ B n d, vr = .slice B n d := (Kd.gI hV).elim fun A h => h.elim fun c e => ⟨A, _, c, e⟩
      subst er
      refine ⟨_, rfl, ?_⟩
      have HV := Aside0.mk (Kd.dD (ok' := (fun k => (Bw k ∧ k < w.heap.size) ∨ LIM ≤ k)) hV (fun k hk => hk.elim .inl fun q => .inr (Nat.le_trans HS.out.l q)))
      replace HX := Aside0.mk (aJ HX.out hb)
      replace HS := Aside0.mk (HS.out.below hb)
      clear hb hV
      refine hK.out _ _ ⟨HS.out.m, HX.out⟩ (fun hHeld => ?_)
      clear hK K
      refine dX (a' := ?_) ?_ ?_
      rotate_left
      · show Act.put _ (some 22) _ = _
        simp only [Act.put, List.setIfInBounds_toArray, List.set_cons_zero, List.set_cons_succ, bO, bR]
        rfl
      refine pu_ 7 23 #[I,I,I,I,I,I,I,I,O,O,O,O] HT_.out ?_
      refine fU (i := 8) (N := some 24) #[I,I,I,I,I,I,I,I,I,O,O,O] rfl rfl (cO HT_.out (by kernel_rfl)) (by decide) (fun K hK => ?_)
      refine Kd.rT k96 (w0 := w) w.heap.size 96 ?hg (N' := 24) ?hd (xs := [iM x]) (inner := [.string x.f0, .string x.f1.f0, .string x.f1.f1, .int .i64 x.f1.f2, .int .i64 x.f1.f3, .bool x.f1.f4, .slice Ar nr cr]) (ok := (fun k => (Bw k ∧ k < w.heap.size) ∨ LIM ≤ k)) (okp := (fun k => (Bw k ∧ k < w.heap.size) ∨ LIM ≤ k)) ?hr ?hp (fun _ hk => hk) (.inr HS.out.l) HS.out.s HS.out.s.size (by simp) ?_
      (case hd => rfl)
      (case hg => rfl)
      (case hr => first | (go_simp; done) | (go_simp; rfl))
      (case hp => exact dQ.c7 (zT HV.out) (dQ.none _ _))
      intro v24 wb hn hb_ hg_ hnew_
      have hb2 := (Below.refl _ _).grown hg_ (Nat.le_refl _) (fun _ h => by cases h)
      clear hb_ hg_ hnew_
      replace HX := Aside0.mk (aJ HX.out hb2)
      replace HS := Aside0.mk (HS.out.below hb2)
      have LX := Aside0.mk hn
      clear hn hb2 HV
      obtain ⟨Ax, cx, ex⟩ := Kd.iR LX.out
      subst ex
      refine hK.out _ _ ⟨HS.out.m, HX.out⟩ (fun hHeld => ?_)
      clear hK K
      refine dX (a' := ?_) ?_ ?_
      rotate_left
      · show Act.put _ (some 24) _ = _
        simp only [Act.put, List.setIfInBounds_toArray, List.set_cons_zero, List.set_cons_succ, bO, bR]
        rfl
      refine fU (i := 9) (N := some 25) #[I,I,I,I,I,I,I,I,I,I,O,O] rfl rfl (cO HT_.out (by kernel_rfl)) (by decide) (fun K hK => ?_)
      refine Kd.mo k96 (w0 := w) w.heap.size (by rfl) (.tmp 17) (.tmp 24) 45 96 _ 96 rfl Tryz.underlying45 zS rfl (by decide) (by omega) v ((l.take i).map iM) [iM x] Ax [iM x].length cx (okU Bw w.heap.size) (fun k => (Bw k ∧ k < w.heap.size) ∨ LIM ≤ k) rfl rfl (Kd.kE (ok' := okU Bw w.heap.size) HS.out.n (fun k hk => hk.elim .inl fun q => .inr q.1)) (Kd.N_F LX.out) (fun k hk => HS.out.away k hk) (fun k hk => .inr (Nat.le_trans HS.out.h (Nat.le_trans HS.out.l hk))) HS.out.s HS.out.s.size (by have := HOK.out.1; have := hnx.out; simp; omega) ?_
      intro BD wc hN hB hg hat
      obtain ⟨An, cn, en⟩ := Kd.iR hN
      obtain ⟨ln, hln⟩ : ∃ n, ((l.take i).map iM ++ [iM x]).length = n := ⟨_, rfl⟩
      rw [hln] at en
      subst en
      have HM := Aside0.mk ((hg.block _ (aW HS.out.m) (Kd.o7 HS.out.n HS.out.m (by decide))).trans HS.out.m)
      replace HX := Aside0.mk ((hg.block _ (aW HX.out) (Kd.o7 HS.out.n HX.out (by decide))).trans HX.out)
      have HP := Aside0.mk (HS.out.push hN hg)
      clear hN hB hg hat hln LX HS
      refine hK.out _ _ ⟨HM.out, HX.out⟩ (fun hHeld => ?_)
      clear hK K
      refine dX (a' := ?_) ?_ ?_
      rotate_left
      · show Act.put _ (some 25) _ = _
        simp only [Act.put, List.setIfInBounds_toArray, List.set_cons_zero, List.set_cons_succ, bO, bR]
        rfl
      refine pu_ 10 26 #[I,I,I,I,I,I,I,I,I,I,I,O] HT_.out ?_
      refine kJ (i := 11) (N := none) #[I,I,I,I,I,I,I,I,I,I,I,I] rfl rfl (cO HT_.out (by kernel_rfl)) (by decide) (fun K hK => ?_)
      have z : wc.cell? ⟨w.heap.size + 1 + 1, 1, none⟩ = some v := (ah HM.out 1).trans rfl
      have f : wc.frozen? ⟨w.heap.size + 1 + 1, 1, none⟩ = false := av HM.out 1
      refine jZ (w1 := ?_) (by rfl) rfl ?_ ?_
      rotate_left
      · go_simp
        rfl
      clear z f
      refine hK.out _ _ ?_
      clear hK K
      refine iZ (gD HT_.out (by kernel_rfl)) ?_
      go_wp2
      go_roundg k1
      case measure => exact Nat.lt_succ_self k1
      case rel => exact ⟨i + 1, _, _, by first | exact HWV.out | rfl, hnx, ⟨HTK.out ▸ HP.out⟩⟩
end Go.Proofs.YtpncpefppifgdaaGreatDoor.GUt
