/- utf's reader: unicode and escape: their contracts, whatever is read. No conditions beside those stated. -/
import Derived.Test.YtnkkbiabloodaaaDoorGUtRead
import Derived.Test.YtnkkbiabloodaaaDoorGUtx6
import Derived.Lib.FrozenHead2
namespace Go.Proofs.YtnkkbiabloodaaaDoor.GUt
open Go.RowKit Go.Shelf Go.Proofs.YtnkkbiabloodaaaDoorW.PrintWords Go.Proofs.YtnkkbiabloodaaaDoorW.PrintLast Go.Proofs.YtnkkbiabloodaaaDoorW.PrintMore
set_option linter.unusedVariables false
set_option linter.unusedSimpArgs false

theorem new_cell {W : World} {cs : Array Value} {t : TypeId} {n : Nat} (hn : W.heap.size = n) (j : Nat) : (W.alloc (.cells cs t)).cell? ⟨n, j, none⟩ = cs[j]? := by
  subst hn
  exact blk_cell (World.alloc_heap_new W _) j
def runeB (v : Int) : ByteArray := strOfNums (Lib.encodeRuneZ v)
theorem enc_bd (v : Int) : ∀ x ∈ Lib.encodeRuneZ v, 0 ≤ x ∧ x < 256 := by
  intro x hx
  unfold Lib.encodeRuneZ at hx
  split at hx
  · simp only [List.mem_singleton] at hx; omega
  split at hx
  · simp only [List.mem_cons, List.mem_nil_iff, or_false] at hx; omega
  split at hx
  · simp only [List.mem_cons, List.mem_nil_iff, or_false] at hx; omega
  split at hx
  · simp only [List.mem_cons, List.mem_nil_iff, or_false] at hx; omega
  · simp only [List.mem_cons, List.mem_nil_iff, or_false] at hx; omega
theorem rune_cells (v : Int) : Lib.runeCells v = Lib.strCells (runeB v) := (cells_nums _ (enc_bd v)).symm
theorem rune_len (v : Int) : (Lib.runeCells v).length = (runeB v).size := by rw [runeB, nums_len, Lib.runeCells, List.length_map]
/-- What \u and four digits stand for. -/
def uniF (s : ByteArray) (p : Nat) (out : ByteArray) : Option ByteArray := (hexF s 4 p 0).bind fun v => if 0 ≤ v ∧ v ≤ 65535 ∧ (v < 55296 ∨ 57343 < v) ∧ out.size ≤ 1000000000 then some (out ++ runeB v) else none
def pairV (v w : Int) : Int := wrap32 (wrap32 (wrap32 (wrap32 (v - 55296) * 1024) + wrap32 (w - 56320)) + 65536)
def slashU : ByteArray := ⟨#[92, 117]⟩
/-- What \u stands for, with the place behind it, or what is wrong. -/
def uniE (s : ByteArray) (p : Nat) (out : ByteArray) : Option (ByteArray × Nat × Int) := (hexE s 4 p 0).bind fun x =>
  if x.2 = 0 then (utf_low.f x.1).bind fun lo => if lo = true then some (out, p, 10) else (utf_high.f x.1).bind fun hi => if hi = true then
    (strings_HasPrefix.f (s.extract (p + 4) s.size) ⟨#[92, 117]⟩).bind fun a => if a = true then (if p + 6 ≤ s.size then ((hexE s 4 (p + 6) 0).bind fun y =>
      if y.2 = 0 then (utf_low.f y.1).bind fun l2 => if l2 = true then (if out.size ≤ 1000000000 then some (out ++ runeB (pairV x.1 y.1), p + 6 + 4, 0) else none) else some (out, p, 10) else some (out, p, y.2)) else none)
    else (strings_HasPrefix.f ⟨#[92, 117]⟩ (s.extract (p + 4) s.size)).bind fun b => some (out, p, if b = true then 11 else 10)
   else if out.size ≤ 1000000000 then some (out ++ runeB x.1, p + 4, 0) else none
  else some (out, p, x.2)
set_option maxHeartbeats 8000000 in
set_option maxRecDepth 100000 in
theorem uniE.calls (B g : Nat) (s : ByteArray) (p : Nat) (hs : s.size ≤ 1000000000) (hp : p ≤ s.size) (out r : ByteArray) (p' : Nat) (er : Int) (v : Value) (w : World) (hR : Rdr B g s (p : Int) out v w) (h : uniE s p out = some (r, p', er)) :
    Calls Tryd.prog 64 #[.pointer (some ⟨g, 0, none⟩)] w fun e w' => e = .returned (.int .i64 er) ∧ (er = 0 → ∃ v', Rdr B g s (p' : Int) r v' w') ∧ Below B w w' := by
  obtain ⟨⟨x, e1⟩, hx, h⟩ := Option.bind_eq_some_iff.1 h
  simp only [] at h
  have HR := Aside0.mk hR
  have HX32 := Aside0.mk (hexE_rng s 4 p 0 x e1 (by decide) hx)
  clear hR
  by_cases he : e1 = 0
  rotate_left
  · rw [if_neg he] at h
    injection h with h
    injection h with _ h
    injection h with _ h
    subst h
    have d1 : (e1 == 0) = false := beq_eq_false_iff_ne.2 he
    have d2 : (e1 != 0) = true := bne_iff_ne.2 he
    have HE := Aside0.mk he
    clear he
    go_enter Tryd.func64, Tryd.ntmps64
    go_wp2_with (first | (go_at_call 67; refine (hexE.calls B g s p hs hp out v x e1 _ HR.out hx).mono ?_; rintro e w1 ⟨rfl, _, hB1⟩; have HB1 := Aside0.mk hB1; clear hB1))
    go_ret
    exact ⟨rfl, fun q => absurd q HE.out, HB1.out⟩
  subst he
  rw [if_pos rfl] at h
  have hfit := hexE_fit s 4 p 0 x hp hx
  obtain ⟨lo, hlo, h⟩ := Option.bind_eq_some_iff.1 h
  cases lo with
  | true =>
    rw [if_pos rfl] at h
    injection h with h
    injection h with _ h
    injection h with _ h
    subst h
    go_enter Tryd.func64, Tryd.ntmps64
    go_wp2_with (first | (go_at_call 67; refine (hexE.calls B g s p hs hp out v x 0 _ HR.out hx).mono ?_; rintro e w1 ⟨rfl, ⟨p1, hp1, _, hR1⟩, hB1⟩; obtain rfl := hp1 rfl; have HR1 := Aside0.mk hR1; have HB1 := Aside0.mk hB1; have h0 := hR1.c0; have h1 := hR1.c1; have h2 := hR1.c2; have f1 := hR1.fz 1; have f2 := hR1.fz 2; clear hR1 hB1) | (go_at_call 68; refine (utf_low.calls x true _ hlo).mono ?_; rintro e w' ⟨rfl, ⟨nd, rfl⟩⟩))
    go_ret
    exact ⟨rfl, fun q => absurd q (by decide), by repeat (first | exact HB1.out | apply pw_below_drewN | apply below_drew1)⟩
  | false =>
    rw [if_neg Bool.false_ne_true] at h
    obtain ⟨hi, hhi, h⟩ := Option.bind_eq_some_iff.1 h
    cases hi with
    | false =>
      rw [if_neg Bool.false_ne_true] at h
      have ho : out.size ≤ 1000000000 := Decidable.by_contra fun hn => by rw [if_neg hn] at h; cases h
      rw [if_pos ho] at h
      injection h with h
      injection h with q1 h
      injection h with q2 q3
      subst q1 q2 q3
      have HO := Aside0.mk ho
      clear ho hfit
      go_enter Tryd.func64, Tryd.ntmps64
      go_wp2_with (first | (go_at_call 67; refine (hexE.calls B g s p hs hp out v x 0 _ HR.out hx).mono ?_; rintro e w1 ⟨rfl, ⟨p1, hp1, _, hR1⟩, hB1⟩; obtain rfl := hp1 rfl; have HR1 := Aside0.mk hR1; have HB1 := Aside0.mk hB1; have h0 := hR1.c0; have h1 := hR1.c1; have h2 := hR1.c2; have f1 := hR1.fz 1; have f2 := hR1.fz 2; clear hR1 hB1) | (go_at_call 68; refine (utf_low.calls x false _ hlo).mono ?_; rintro e w' ⟨rfl, ⟨nd, rfl⟩⟩) | (go_at_call 69; refine (utf_high.calls x false _ hhi).mono ?_; rintro e w' ⟨rfl, ⟨nd, rfl⟩⟩))
      have hle : B ≤ w1.heap.size := Nat.le_trans HR1.out.2.2 (Nat.le_of_lt HR1.out.lt)
      have hroom : out.size + 4 ≤ 140737488355328 := by have := HO.out; omega
      have PX32 := HX32
      have AR := fun wz h1 h2 => Tryd.utf8_AppendRune_row B v out.size (Lib.strCells out) x PX32.out.1 PX32.out.2 wz h1 hroom h2
      refine (AR _ ?h1 ?h2).mono ?_
      case h1 => exact HR1.out.2.1
      case h2 => exact hle
      clear AR
      rintro e w2 ⟨v', rfl, hown, o, hgrow⟩
      rw [rune_len, rune_cells, cells_add, ← ByteArray.size_append] at hown
      have hne : some g ≠ v.ownBlock := fun e => row_ne HR1.out.2.1 HR1.out.1 (by decide) e.symm
      have hg2 : w2.heap[g]? = some (.cells #[.string s, .int .i64 ((p + 4 : Nat) : Int), v] 105 (0, 0)) := by
        rw [hgrow.block g (by simp; exact Nat.lt_succ_of_lt HR1.out.lt) hne]
        exact (Below.heap_alloc _ o g HR1.out.lt).trans HR1.out.1
      have HG2 := Aside0.mk hg2
      have HOW := Aside0.mk hown
      have hBw : Below B w w2 := by
        refine Below.grown (Below.alloc ?hb ?hl o) hgrow ?hs (fun k hk => (row_lt HR1.out.2.1 k hk).1)
        case hb => repeat (first | exact HB1.out | apply pw_below_drewN | apply below_drew1)
        case hl => exact hle
        case hs => simp; omega
      have HBW := Aside0.mk hBw
      have d2 : w2.cell? ⟨g, 2, none⟩ = some v := (blk_cell hg2 2).trans rfl
      have e2 := blk_frozen hg2 2
      obtain ⟨ao, n', cap, rfl⟩ : ∃ ao n' cap, v' = .slice ao n' cap := by
        rcases hown.2 with ⟨hv, _⟩ | ⟨g, cap, cur, fz, hv, _⟩
        · exact ⟨_, _, _, hv⟩
        · exact ⟨_, _, _, hv⟩
      clear hgrow hg2 hown hBw hne h0 h1 h2 f1 f2
      go_wp2
      go_ret
      exact ⟨rfl, fun _ => ⟨_, Rdr.set2 HG2.out HOW.out HR1.out.2.2⟩, below_set1 HBW.out HR1.out.2.2 _ _⟩

    | true =>
      rw [if_pos rfl] at h
      obtain ⟨a, ha, h⟩ := Option.bind_eq_some_iff.1 h
      have HA0 := ha
      obtain ⟨q, hq⟩ : ∃ q : Int, ((p + 4 : Nat) : Int) = q := ⟨_, rfl⟩
      have hqn : q.toNat = p + 4 := by omega
      have p7 : (0 ≤ q) = True := eq_true (by omega)
      have p8 : (q ≤ (s.size : Int)) = True := eq_true (by omega)
      rw [← hqn] at ha
      have HA := Aside0.mk ha
      cases a with
      | false =>
        rw [if_neg Bool.false_ne_true] at h
        obtain ⟨b, hb, h⟩ := Option.bind_eq_some_iff.1 h
        rw [← hqn] at hb
        have HB2 := Aside0.mk hb
        injection h with h
        injection h with _ h
        injection h with _ h
        have HQ := Aside0.mk hq
        clear ha hb hqn HA0 hfit
        cases b with
        | true =>
          rw [if_pos rfl] at h
          subst h
          go_enter Tryd.func64, Tryd.ntmps64
          go_wp2_with (first | (go_at_call 67; refine (hexE.calls B g s p hs hp out v x 0 _ HR.out hx).mono ?_; rintro e w1 ⟨rfl, ⟨p1, hp1, _, hR1⟩, hB1⟩; obtain rfl := hp1 rfl; rw [hq] at hR1; have HR1 := Aside0.mk hR1; have HB1 := Aside0.mk hB1; have h0 := hR1.c0; have h1 := hR1.c1; have h2 := hR1.c2; have f1 := hR1.fz 1; have f2 := hR1.fz 2; clear hR1 hB1) | (go_at_call 68; refine (utf_low.calls x false _ hlo).mono ?_; rintro e w' ⟨rfl, ⟨nd, rfl⟩⟩) | (go_at_call 69; refine (utf_high.calls x true _ hhi).mono ?_; rintro e w' ⟨rfl, ⟨nd, rfl⟩⟩))
          repeat (go_quiet (first | (go_at_call 70; (with_reducible refine (strings_HasPrefix.calls _ _ _ _ HA.out).mono ?_); rintro e w' ⟨rfl, ⟨nd, rfl⟩⟩; (try first | exact ⟨rfl, _, World.drewN_drewN _ _ _⟩ | exact ⟨rfl, _, Eq.trans (World.drewN_drewN _ _ _) (congrArg (World.drewN _) (Nat.add_assoc _ _ _))⟩)) | (go_at_call 70; (with_reducible refine (strings_HasPrefix.calls _ _ _ _ HB2.out).mono ?_); rintro e w' ⟨rfl, ⟨nd, rfl⟩⟩; (try first | exact ⟨rfl, _, World.drewN_drewN _ _ _⟩ | exact ⟨rfl, _, Eq.trans (World.drewN_drewN _ _ _) (congrArg (World.drewN _) (Nat.add_assoc _ _ _))⟩))); try go_wp2)
          go_ret
          exact ⟨rfl, fun q => absurd q (by decide), by repeat (first | exact HB1.out | apply pw_below_drewN | apply below_drew1)⟩
        | false =>
          rw [if_neg Bool.false_ne_true] at h
          subst h
          go_enter Tryd.func64, Tryd.ntmps64
          go_wp2_with (first | (go_at_call 67; refine (hexE.calls B g s p hs hp out v x 0 _ HR.out hx).mono ?_; rintro e w1 ⟨rfl, ⟨p1, hp1, _, hR1⟩, hB1⟩; obtain rfl := hp1 rfl; rw [hq] at hR1; have HR1 := Aside0.mk hR1; have HB1 := Aside0.mk hB1; have h0 := hR1.c0; have h1 := hR1.c1; have h2 := hR1.c2; have f1 := hR1.fz 1; have f2 := hR1.fz 2; clear hR1 hB1) | (go_at_call 68; refine (utf_low.calls x false _ hlo).mono ?_; rintro e w' ⟨rfl, ⟨nd, rfl⟩⟩) | (go_at_call 69; refine (utf_high.calls x true _ hhi).mono ?_; rintro e w' ⟨rfl, ⟨nd, rfl⟩⟩))
          repeat (go_quiet (first | (go_at_call 70; (with_reducible refine (strings_HasPrefix.calls _ _ _ _ HA.out).mono ?_); rintro e w' ⟨rfl, ⟨nd, rfl⟩⟩; (try first | exact ⟨rfl, _, World.drewN_drewN _ _ _⟩ | exact ⟨rfl, _, Eq.trans (World.drewN_drewN _ _ _) (congrArg (World.drewN _) (Nat.add_assoc _ _ _))⟩)) | (go_at_call 70; (with_reducible refine (strings_HasPrefix.calls _ _ _ _ HB2.out).mono ?_); rintro e w' ⟨rfl, ⟨nd, rfl⟩⟩; (try first | exact ⟨rfl, _, World.drewN_drewN _ _ _⟩ | exact ⟨rfl, _, Eq.trans (World.drewN_drewN _ _ _) (congrArg (World.drewN _) (Nat.add_assoc _ _ _))⟩))); try go_wp2)
          go_ret
          exact ⟨rfl, fun q => absurd q (by decide), by repeat (first | exact HB1.out | apply pw_below_drewN | apply below_drew1)⟩
      | true =>
        rw [if_pos rfl] at h
        have h6 : p + 6 ≤ s.size := Decidable.by_contra fun hn => by rw [if_neg hn] at h; cases h
        rw [if_pos h6] at h
        obtain ⟨⟨y, e2⟩, hy, h⟩ := Option.bind_eq_some_iff.1 h
        simp only [] at h
        have hw2 : wrap64 (q + 2) = ((p + 6 : Nat) : Int) := by rw [i64_id (by omega) (by omega)]; omega
        have HW2 := Aside0.mk hw2
        have HW3 := Aside0.mk (show q + 2 = ((p + 6 : Nat) : Int) by omega)
        have HG := Aside0.mk HR.out.2.2
        have H6 := Aside0.mk h6
        clear ha hqn HA0 hfit hw2 h6
        by_cases he2 : e2 = 0
        rotate_left
        · rw [if_neg he2] at h
          injection h with h
          injection h with _ h
          injection h with _ h
          subst h
          have d1 : (e2 == 0) = false := beq_eq_false_iff_ne.2 he2
          have d2 : (e2 != 0) = true := bne_iff_ne.2 he2
          have HE := Aside0.mk he2
          clear he2
          go_enter Tryd.func64, Tryd.ntmps64
          go_wp2_with (first | (go_at_call 67; refine (hexE.calls B g s p hs hp out v x 0 _ HR.out hx).mono ?_; rintro e w1 ⟨rfl, ⟨p1, hp1, _, hR1⟩, hB1⟩; obtain rfl := hp1 rfl; rw [hq] at hR1; have HR1 := Aside0.mk hR1; have HB1 := Aside0.mk hB1; have h0 := hR1.c0; have h1 := hR1.c1; have h2 := hR1.c2; have f1 := hR1.fz 1; have f2 := hR1.fz 2; clear hR1 hB1) | (go_at_call 68; refine (utf_low.calls x false _ hlo).mono ?_; rintro e w' ⟨rfl, ⟨nd, rfl⟩⟩) | (go_at_call 69; refine (utf_high.calls x true _ hhi).mono ?_; rintro e w' ⟨rfl, ⟨nd, rfl⟩⟩))
          repeat (go_quiet (first | (go_at_call 70; (with_reducible refine (strings_HasPrefix.calls _ _ _ _ HA.out).mono ?_); rintro e w' ⟨rfl, ⟨nd, rfl⟩⟩; (try first | exact ⟨rfl, _, World.drewN_drewN _ _ _⟩ | exact ⟨rfl, _, Eq.trans (World.drewN_drewN _ _ _) (congrArg (World.drewN _) (Nat.add_assoc _ _ _))⟩))); try go_wp2_with (first | (go_at_call 67; refine (hexE.calls B g s (p + 6) hs H6.out out v y e2 _ (by first | (rw [← HW2.out]; exact (HR1.out.drewN _).set1 _) | (rw [← HW3.out]; exact (HR1.out.drewN _).set1 _)) hy).mono ?_; rintro e w3 ⟨rfl, _, hB3⟩; have HB3 := Aside0.mk (Below.trans (below_set1 (show Below B w _ by repeat (first | exact HB1.out | apply pw_below_drewN | apply below_drew1)) HG.out 1 _) hB3); clear hB3)))
          go_ret
          exact ⟨rfl, fun q => absurd q HE.out, HB3.out⟩
        subst he2
        rw [if_pos rfl] at h
        obtain ⟨l2, hl2, h⟩ := Option.bind_eq_some_iff.1 h
        cases l2 with
        | false =>
          rw [if_neg Bool.false_ne_true] at h
          injection h with h
          injection h with _ h
          injection h with _ h
          subst h
          go_enter Tryd.func64, Tryd.ntmps64
          go_wp2_with (first | (go_at_call 67; refine (hexE.calls B g s p hs hp out v x 0 _ HR.out hx).mono ?_; rintro e w1 ⟨rfl, ⟨p1, hp1, _, hR1⟩, hB1⟩; obtain rfl := hp1 rfl; rw [hq] at hR1; have HR1 := Aside0.mk hR1; have HB1 := Aside0.mk hB1; have h0 := hR1.c0; have h1 := hR1.c1; have h2 := hR1.c2; have f1 := hR1.fz 1; have f2 := hR1.fz 2; clear hR1 hB1) | (go_at_call 68; refine (utf_low.calls x false _ hlo).mono ?_; rintro e w' ⟨rfl, ⟨nd, rfl⟩⟩) | (go_at_call 69; refine (utf_high.calls x true _ hhi).mono ?_; rintro e w' ⟨rfl, ⟨nd, rfl⟩⟩))
          repeat (go_quiet (first | (go_at_call 70; (with_reducible refine (strings_HasPrefix.calls _ _ _ _ HA.out).mono ?_); rintro e w' ⟨rfl, ⟨nd, rfl⟩⟩; (try first | exact ⟨rfl, _, World.drewN_drewN _ _ _⟩ | exact ⟨rfl, _, Eq.trans (World.drewN_drewN _ _ _) (congrArg (World.drewN _) (Nat.add_assoc _ _ _))⟩))); try go_wp2_with (first | (go_at_call 67; refine (hexE.calls B g s (p + 6) hs H6.out out v y 0 _ (by first | (rw [← HW2.out]; exact (HR1.out.drewN _).set1 _) | (rw [← HW3.out]; exact (HR1.out.drewN _).set1 _)) hy).mono ?_; rintro e w3 ⟨rfl, ⟨p3, hp3, _, hR3⟩, hB3⟩; obtain rfl := hp3 rfl; have HR3 := Aside0.mk hR3; have HB3 := Aside0.mk (Below.trans (below_set1 (show Below B w _ by repeat (first | exact HB1.out | apply pw_below_drewN | apply below_drew1)) HG.out 1 _) hB3); clear h0 h1 h2 f1 f2; have h2 := hR3.c2; have f2 := hR3.fz 2; clear hR3 hB3) | (go_at_call 68; refine (utf_low.calls y false _ hl2).mono ?_; rintro e w' ⟨rfl, ⟨nd, rfl⟩⟩)))
          go_ret
          exact ⟨rfl, fun q => absurd q (by decide), by repeat (first | exact HB3.out | apply pw_below_drewN | apply below_drew1)⟩
        | true =>
          rw [if_pos rfl] at h
          have ho : out.size ≤ 1000000000 := Decidable.by_contra fun hn => by rw [if_neg hn] at h; cases h
          rw [if_pos ho] at h
          injection h with h
          injection h with q1 h
          injection h with q2 q3
          subst q1 q2 q3
          have HO := Aside0.mk ho
          have PX32 := Aside0.mk (w32_rng (wrap32 (wrap32 (wrap32 (x - 55296) * 1024) + wrap32 (y - 56320)) + 65536))
          clear ho
          go_enter Tryd.func64, Tryd.ntmps64
          go_wp2_with (first | (go_at_call 67; refine (hexE.calls B g s p hs hp out v x 0 _ HR.out hx).mono ?_; rintro e w1 ⟨rfl, ⟨p1, hp1, _, hR1⟩, hB1⟩; obtain rfl := hp1 rfl; rw [hq] at hR1; have HR1 := Aside0.mk hR1; have HB1 := Aside0.mk hB1; have h0 := hR1.c0; have h1 := hR1.c1; have h2 := hR1.c2; have f1 := hR1.fz 1; have f2 := hR1.fz 2; clear hR1 hB1) | (go_at_call 68; refine (utf_low.calls x false _ hlo).mono ?_; rintro e w' ⟨rfl, ⟨nd, rfl⟩⟩) | (go_at_call 69; refine (utf_high.calls x true _ hhi).mono ?_; rintro e w' ⟨rfl, ⟨nd, rfl⟩⟩))
          repeat (go_quiet (first | (go_at_call 70; (with_reducible refine (strings_HasPrefix.calls _ _ _ _ HA.out).mono ?_); rintro e w' ⟨rfl, ⟨nd, rfl⟩⟩; (try first | exact ⟨rfl, _, World.drewN_drewN _ _ _⟩ | exact ⟨rfl, _, Eq.trans (World.drewN_drewN _ _ _) (congrArg (World.drewN _) (Nat.add_assoc _ _ _))⟩))); try go_wp2_with (first | (go_at_call 67; refine (hexE.calls B g s (p + 6) hs H6.out out v y 0 _ (by first | (rw [← HW2.out]; exact (HR1.out.drewN _).set1 _) | (rw [← HW3.out]; exact (HR1.out.drewN _).set1 _)) hy).mono ?_; rintro e w3 ⟨rfl, ⟨p3, hp3, _, hR3⟩, hB3⟩; obtain rfl := hp3 rfl; have HR3 := Aside0.mk hR3; have HB3 := Aside0.mk (Below.trans (below_set1 (show Below B w _ by repeat (first | exact HB1.out | apply pw_below_drewN | apply below_drew1)) HG.out 1 _) hB3); clear h0 h1 h2 f1 f2; have h2 := hR3.c2; have f2 := hR3.fz 2; clear hR3 hB3) | (go_at_call 68; refine (utf_low.calls y true _ hl2).mono ?_; rintro e w' ⟨rfl, ⟨nd, rfl⟩⟩)))
          have hle : B ≤ w3.heap.size := Nat.le_trans HR3.out.2.2 (Nat.le_of_lt HR3.out.lt)
          have hroom : out.size + 4 ≤ 140737488355328 := by have := HO.out; omega
          have AR := fun wz h1 h2 => Tryd.utf8_AppendRune_row B v out.size (Lib.strCells out) (wrap32 (wrap32 (wrap32 (wrap32 (x - 55296) * 1024) + wrap32 (y - 56320)) + 65536)) PX32.out.1 PX32.out.2 wz h1 hroom h2
          refine (AR _ ?h1 ?h2).mono ?_
          case h1 => exact HR3.out.2.1
          case h2 => exact hle
          clear AR
          rintro e w2 ⟨v', rfl, hown, o, hgrow⟩
          rw [rune_len, rune_cells, cells_add, ← ByteArray.size_append] at hown
          have hne : some g ≠ v.ownBlock := fun e => row_ne HR3.out.2.1 HR3.out.1 (by decide) e.symm
          have hg2 : w2.heap[g]? = some (.cells #[.string s, .int .i64 ((p + 6 + 4 : Nat) : Int), v] 105 (0, 0)) := by
            rw [hgrow.block g (by simp; exact Nat.lt_succ_of_lt HR3.out.lt) hne]
            exact (Below.heap_alloc _ o g HR3.out.lt).trans HR3.out.1
          have HG2 := Aside0.mk hg2
          have HOW := Aside0.mk hown
          have hBw : Below B w w2 := by
            refine Below.grown (Below.alloc ?hb ?hl o) hgrow ?hs (fun k hk => (row_lt HR3.out.2.1 k hk).1)
            case hb => repeat (first | exact HB3.out | apply pw_below_drewN | apply below_drew1)
            case hl => exact hle
            case hs => simp; omega
          have HBW := Aside0.mk hBw
          have d2 : w2.cell? ⟨g, 2, none⟩ = some v := (blk_cell hg2 2).trans rfl
          have e2 := blk_frozen hg2 2
          obtain ⟨ao, n', cap, rfl⟩ : ∃ ao n' cap, v' = .slice ao n' cap := by
            rcases hown.2 with ⟨hv, _⟩ | ⟨g, cap, cur, fz, hv, _⟩
            · exact ⟨_, _, _, hv⟩
            · exact ⟨_, _, _, hv⟩
          clear hgrow hg2 hown hBw hne h2 f2
          go_wp2
          go_ret
          exact ⟨rfl, fun _ => ⟨_, Rdr.set2 HG2.out HOW.out HR3.out.2.2⟩, below_set1 HBW.out HR3.out.2.2 _ _⟩
end Go.Proofs.YtnkkbiabloodaaaDoor.GUt
