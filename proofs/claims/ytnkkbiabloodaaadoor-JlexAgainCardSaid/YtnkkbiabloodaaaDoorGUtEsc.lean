/- utf's reader: escape: its contract, whatever is read. No conditions beside those stated. -/
import Derived.Test.YtnkkbiabloodaaaDoorGUtUni
import Derived.Lib.FrozenHead2
namespace Go.Proofs.YtnkkbiabloodaaaDoor.GUt
open Go.RowKit Go.Shelf Go.Proofs.YtnkkbiabloodaaaDoorW.PrintWords Go.Proofs.YtnkkbiabloodaaaDoorW.PrintLast Go.Proofs.YtnkkbiabloodaaaDoorW.PrintMore
set_option linter.unusedVariables false
set_option linter.unusedSimpArgs false

/-- The byte that a letter behind a backslash stands for. -/
def escB (b : Int) : Option Int := if b = 98 then some 8 else if b = 102 then some 12 else if b = 110 then some 10 else if b = 114 then some 13 else if b = 116 then some 9 else if b = 34 then some 34 else if b = 92 then some 92 else none
/-- What stands behind a backslash: what is read then, and the place behind it. -/
def escF (s : ByteArray) (p : Nat) (out : ByteArray) : Option (ByteArray × Nat) :=
  if p < s.size ∧ out.size ≤ 1000000000 then (if bt s p = 117 then (uniF s (p + 1) out).bind fun r => some (r, p + 5) else (escB (bt s p)).bind fun c => some (out ++ strOfNums [c], p + 1)) else none
def escC (b : Int) : Option Int := if b = 47 then some 47 else escB b
/-- What stands behind a backslash, whatever it is: what is read then, the place behind it, the code. -/
def escE (s : ByteArray) (p : Nat) (out : ByteArray) : Option (ByteArray × Nat × Int) :=
  if p < s.size then (if bt s p = 117 then uniE s (p + 1) out else match escC (bt s p) with
    | some c => if out.size ≤ 1000000000 then some (out ++ strOfNums [c], p + 1, 0) else none
    | none => some (out, p, 6)) else some (out, p, 11)
set_option maxHeartbeats 8000000 in
set_option maxRecDepth 100000 in
theorem escE.calls (B g : Nat) (s : ByteArray) (p : Nat) (hs : s.size ≤ 1000000000) (out r : ByteArray) (p' : Nat) (er : Int) (v : Value) (w : World) (hR : Rdr B g s (p : Int) out v w) (h : escE s p out = some (r, p', er)) :
    Calls Tryd.prog 56 #[.pointer (some ⟨g, 0, none⟩)] w fun e w' => e = .returned (.int .i64 er) ∧ (er = 0 → ∃ v', Rdr B g s (p' : Int) r v' w') ∧ Below B w w' := by
  rw [escE] at h
  obtain ⟨q, hq⟩ : ∃ q : Int, (p : Int) = q := ⟨_, rfl⟩
  have HR := Aside0.mk hR
  rw [hq] at hR h
  have h0 := hR.c0
  have h1 := hR.c1
  have h2 := hR.c2
  have f0 := hR.fz 0
  have f1 := hR.fz 1
  have f2 := hR.fz 2
  by_cases hps : p < s.size
  rotate_left
  · rw [if_neg hps] at h
    injection h with h
    injection h with _ h
    injection h with _ h
    subst h
    have c3 : decide ((s.size : Int) ≤ q) = true := decide_eq_true (by omega)
    have HB0 := Aside0.mk (Below.refl B w)
    clear hps hq hR HR
    go_enter Tryd.func56, Tryd.ntmps56
    go_wp2
    repeat (go_quiet (fail); try go_wp2)
    go_ret
    exact ⟨rfl, fun q => absurd q (by decide), by repeat (first | exact HB0.out | apply pw_below_drewN | apply below_drew1)⟩
  rw [if_pos hps] at h
  have c3 : decide ((s.size : Int) ≤ q) = false := decide_eq_false (by omega)
  have p7 : (0 ≤ q) = True := eq_true (by omega)
  have q7 : (q < (s.size : Int)) = True := eq_true (by omega)
  have hx7 := bt_at s q
  have hw : wrap64 (q + 1) = ((p + 1 : Nat) : Int) := by rw [i64_id (by omega) (by omega)]; omega
  have HW := Aside0.mk hw
  have HG := Aside0.mk hR.2.2
  have HRq := Aside0.mk hR
  have HL := Aside0.mk hR.lt
  have HP1 := Aside0.mk (show p + 1 ≤ s.size by omega)
  clear hw hps hq hR
  by_cases hu : bt s q = 117
  · rw [if_pos hu] at h
    rw [hu] at hx7
    go_enter Tryd.func56, Tryd.ntmps56
    go_wp2_with (fail)
    repeat (go_quiet (fail); try go_wp2_with (first | (go_at_call 64; refine (uniE.calls B g s (p + 1) hs HP1.out out r p' er v _ (by rw [← HW.out]; exact (HRq.out.drewN _).set1 _) h).mono ?_; rintro e w3 ⟨rfl, hR3, hB3⟩)))
    go_ret
    refine ⟨rfl, hR3, Below.trans ?_ hB3⟩
    refine below_set1 ?_ HG.out _ _
    repeat (first | exact Below.refl _ _ | apply pw_below_drewN | apply below_drew1)
  rw [if_neg hu] at h
  cases hc : escC (bt s q) with
  | none =>
    rw [hc] at h
    injection h with h
    injection h with _ h
    injection h with _ h
    subst h
    have hn : bt s q ≠ 98 ∧ bt s q ≠ 102 ∧ bt s q ≠ 110 ∧ bt s q ≠ 114 ∧ bt s q ≠ 116 ∧ bt s q ≠ 34 ∧ bt s q ≠ 92 ∧ bt s q ≠ 47 := by
      unfold escC escB at hc
      refine ⟨?_, ?_, ?_, ?_, ?_, ?_, ?_, ?_⟩ <;> intro z <;> rw [z] at hc <;> exact absurd hc (by decide)
    obtain ⟨n98, n102, n110, n114, n116, n34, n92, n47⟩ := hn
    have d117 : (bt s q == 117) = false := beq_eq_false_iff_ne.2 hu
    have d98 : (bt s q == 98) = false := beq_eq_false_iff_ne.2 n98
    have d102 : (bt s q == 102) = false := beq_eq_false_iff_ne.2 n102
    have d110 : (bt s q == 110) = false := beq_eq_false_iff_ne.2 n110
    have d114 : (bt s q == 114) = false := beq_eq_false_iff_ne.2 n114
    have d116 : (bt s q == 116) = false := beq_eq_false_iff_ne.2 n116
    have d34 : (bt s q == 34) = false := beq_eq_false_iff_ne.2 n34
    have d92 : (bt s q == 92) = false := beq_eq_false_iff_ne.2 n92
    have d47 : (bt s q == 47) = false := beq_eq_false_iff_ne.2 n47
    have HB0 := Aside0.mk (Below.refl B w)
    clear hu hc n98 n102 n110 n114 n116 n34 n92 n47
    go_enter Tryd.func56, Tryd.ntmps56
    go_wp2
    repeat (go_quiet (fail); try go_wp2)
    go_ret
    exact ⟨rfl, fun q => absurd q (by decide), by
      refine below_set1 ?_ HG.out _ _
      repeat (first | exact HB0.out | apply pw_below_drewN | apply below_drew1)⟩
  | some c =>
    rw [hc] at h
    simp only [] at h
    have ho : out.size ≤ 1000000000 := Decidable.by_contra fun hn => by rw [if_neg hn] at h; cases h
    rw [if_pos ho] at h
    injection h with h
    injection h with e1 h
    injection h with e2 h
    subst e1 e2 h
    have HO := Aside0.mk ho
    have hb : (bt s q = 98 ∧ c = 8) ∨ (bt s q = 102 ∧ c = 12) ∨ (bt s q = 110 ∧ c = 10) ∨ (bt s q = 114 ∧ c = 13) ∨ (bt s q = 116 ∧ c = 9) ∨ (bt s q = 34 ∧ c = 34) ∨ (bt s q = 92 ∧ c = 92) ∨ (bt s q = 47 ∧ c = 47) := by
      unfold escC escB at hc
      repeat' split at hc
      all_goals first | (cases hc; done) | (have hc := Option.some.inj hc; omega)
    obtain ⟨i0, hi, hz0, hz1, hz2⟩ := info_parts Tryd.Builder_Extra_169.infoByte
    have hle : B ≤ w.heap.size := Nat.le_trans HG.out (Nat.le_of_lt HL.out)
    have HLE := Aside0.mk hle
    clear hle hc hu ho
    have fin : ∀ (c : Int) (v' : Value) (w0 w2 : World), 0 ≤ c → c < 256 → Below B w w0 → Rdr B g s ((p + 1 : Nat) : Int) out v w0 → w2.ownsRowF B 5 1 v' (out.size + 1) (Lib.strCells out ++ [.int .u8 c]) → ∀ o, (w0.alloc o).grownBy w2 v.ownBlock →
        Rdr B g s ((p + 1 : Nat) : Int) (out ++ strOfNums [c]) v' (w2.setCell ⟨g, 2, none⟩ v') ∧ Below B w (w2.setCell ⟨g, 2, none⟩ v') ∧ w2.cell? ⟨g, 2, none⟩ = some v ∧ w2.frozen? ⟨g, 2, none⟩ = false := by
      intro c v' w0 w2 c0 c1 hB0 hR0 hown o hgrow
      rw [cells_push _ _ c0 c1, show out.size + 1 = (out ++ strOfNums [c]).size by rw [ByteArray.size_append, nums_len]; rfl] at hown
      have hne : some g ≠ v.ownBlock := fun e => row_ne hR0.2.1 hR0.1 (by decide) e.symm
      have hg2 : w2.heap[g]? = some (.cells #[.string s, .int .i64 ((p + 1 : Nat) : Int), v] 105 (0, 0)) := by
        rw [hgrow.block g (by simp; exact Nat.lt_succ_of_lt hR0.lt) hne]
        exact (Below.heap_alloc w0 o g hR0.lt).trans hR0.1
      have hl0 : B ≤ w0.heap.size := Nat.le_trans hR0.2.2 (Nat.le_of_lt hR0.lt)
      refine ⟨Rdr.set2 hg2 hown hR0.2.2, below_set1 ((hB0.alloc hl0 o).grown hgrow (by simp; omega) (fun k hk => (row_lt hR0.2.1 k hk).1)) hR0.2.2 _ _, (blk_cell hg2 2).trans rfl, blk_frozen hg2 2⟩
    have FIN := Aside0.mk fin
    clear fin
    rcases hb with ⟨hb, rfl⟩ | ⟨hb, rfl⟩ | ⟨hb, rfl⟩ | ⟨hb, rfl⟩ | ⟨hb, rfl⟩ | ⟨hb, rfl⟩ | ⟨hb, rfl⟩ | ⟨hb, rfl⟩
    · rw [hb] at hx7
      go_enter Tryd.func56, Tryd.ntmps56
      go_wp2
      go_quiet (fail)
      go_wp2
      go_quiet (fail)
      have hL2 := fun k u => ((HRq.out.drewN k).set1 u).2.1
      go_wp2_with (at_builtin; refine wpList_append_ownF _ rfl _ _ 92 rfl B 5 i0 (.int .u8 0) 1 1 Tryd.underlying92 hi hz0 hz1 hz2 rfl (by decide) _ _ _ rfl ((hL2 _ _).alloc _) ⟨w.heap.size, 0, none⟩ 1 1 [.int .u8 8] rfl rfl ?c1 ?c2 ?c3 ?c4 ?c5 ?_)
      case c1 =>
        intro j u hj
        match j, hj with
        | 0, hj => simp at hj; subst hj; exact new_cell (by simp) 0
      case c2 => intro u hu; simp at hu; subst hu; rfl
      case c3 => unfold maxLen; have := HO.out; omega
      case c4 => have := HO.out; omega
      case c5 => simp; exact Nat.le_succ_of_le HLE.out
      intro v' w2 hown' hgrow _
      have hF := FIN.out 8 v' _ w2 (by decide) (by decide) ?hb1 ?hr1 hown' _ hgrow
      case hb1 =>
        refine below_set1 ?_ HG.out _ _
        repeat (first | exact Below.refl _ _ | apply pw_below_drewN | apply below_drew1)
      case hr1 => rw [← HW.out]; exact (HRq.out.drewN _).set1 _
      obtain ⟨r1, r2, r3, r4⟩ := hF
      obtain ⟨ao, n', cap, rfl⟩ : ∃ ao n' cap, v' = .slice ao n' cap := by
        rcases hown'.2 with ⟨hv, _⟩ | ⟨g, cap, cur, fz, hv, _⟩
        · exact ⟨_, _, _, hv⟩
        · exact ⟨_, _, _, hv⟩
      clear hown' hgrow hL2
      go_wp2
      go_ret
      exact ⟨rfl, fun _ => ⟨_, r1⟩, r2⟩
    · rw [hb] at hx7
      go_enter Tryd.func56, Tryd.ntmps56
      go_wp2
      go_quiet (fail)
      go_wp2
      go_quiet (fail)
      have hL2 := fun k u => ((HRq.out.drewN k).set1 u).2.1
      go_wp2_with (at_builtin; refine wpList_append_ownF _ rfl _ _ 92 rfl B 5 i0 (.int .u8 0) 1 1 Tryd.underlying92 hi hz0 hz1 hz2 rfl (by decide) _ _ _ rfl ((hL2 _ _).alloc _) ⟨w.heap.size, 0, none⟩ 1 1 [.int .u8 12] rfl rfl ?c1 ?c2 ?c3 ?c4 ?c5 ?_)
      case c1 =>
        intro j u hj
        match j, hj with
        | 0, hj => simp at hj; subst hj; exact new_cell (by simp) 0
      case c2 => intro u hu; simp at hu; subst hu; rfl
      case c3 => unfold maxLen; have := HO.out; omega
      case c4 => have := HO.out; omega
      case c5 => simp; exact Nat.le_succ_of_le HLE.out
      intro v' w2 hown' hgrow _
      have hF := FIN.out 12 v' _ w2 (by decide) (by decide) ?hb1 ?hr1 hown' _ hgrow
      case hb1 =>
        refine below_set1 ?_ HG.out _ _
        repeat (first | exact Below.refl _ _ | apply pw_below_drewN | apply below_drew1)
      case hr1 => rw [← HW.out]; exact (HRq.out.drewN _).set1 _
      obtain ⟨r1, r2, r3, r4⟩ := hF
      obtain ⟨ao, n', cap, rfl⟩ : ∃ ao n' cap, v' = .slice ao n' cap := by
        rcases hown'.2 with ⟨hv, _⟩ | ⟨g, cap, cur, fz, hv, _⟩
        · exact ⟨_, _, _, hv⟩
        · exact ⟨_, _, _, hv⟩
      clear hown' hgrow hL2
      go_wp2
      go_ret
      exact ⟨rfl, fun _ => ⟨_, r1⟩, r2⟩
    · rw [hb] at hx7
      go_enter Tryd.func56, Tryd.ntmps56
      go_wp2
      go_quiet (fail)
      go_wp2
      go_quiet (fail)
      have hL2 := fun k u => ((HRq.out.drewN k).set1 u).2.1
      go_wp2_with (at_builtin; refine wpList_append_ownF _ rfl _ _ 92 rfl B 5 i0 (.int .u8 0) 1 1 Tryd.underlying92 hi hz0 hz1 hz2 rfl (by decide) _ _ _ rfl ((hL2 _ _).alloc _) ⟨w.heap.size, 0, none⟩ 1 1 [.int .u8 10] rfl rfl ?c1 ?c2 ?c3 ?c4 ?c5 ?_)
      case c1 =>
        intro j u hj
        match j, hj with
        | 0, hj => simp at hj; subst hj; exact new_cell (by simp) 0
      case c2 => intro u hu; simp at hu; subst hu; rfl
      case c3 => unfold maxLen; have := HO.out; omega
      case c4 => have := HO.out; omega
      case c5 => simp; exact Nat.le_succ_of_le HLE.out
      intro v' w2 hown' hgrow _
      have hF := FIN.out 10 v' _ w2 (by decide) (by decide) ?hb1 ?hr1 hown' _ hgrow
      case hb1 =>
        refine below_set1 ?_ HG.out _ _
        repeat (first | exact Below.refl _ _ | apply pw_below_drewN | apply below_drew1)
      case hr1 => rw [← HW.out]; exact (HRq.out.drewN _).set1 _
      obtain ⟨r1, r2, r3, r4⟩ := hF
      obtain ⟨ao, n', cap, rfl⟩ : ∃ ao n' cap, v' = .slice ao n' cap := by
        rcases hown'.2 with ⟨hv, _⟩ | ⟨g, cap, cur, fz, hv, _⟩
        · exact ⟨_, _, _, hv⟩
        · exact ⟨_, _, _, hv⟩
      clear hown' hgrow hL2
      go_wp2
      go_ret
      exact ⟨rfl, fun _ => ⟨_, r1⟩, r2⟩
    · rw [hb] at hx7
      go_enter Tryd.func56, Tryd.ntmps56
      go_wp2
      go_quiet (fail)
      go_wp2
      go_quiet (fail)
      have hL2 := fun k u => ((HRq.out.drewN k).set1 u).2.1
      go_wp2_with (at_builtin; refine wpList_append_ownF _ rfl _ _ 92 rfl B 5 i0 (.int .u8 0) 1 1 Tryd.underlying92 hi hz0 hz1 hz2 rfl (by decide) _ _ _ rfl ((hL2 _ _).alloc _) ⟨w.heap.size, 0, none⟩ 1 1 [.int .u8 13] rfl rfl ?c1 ?c2 ?c3 ?c4 ?c5 ?_)
      case c1 =>
        intro j u hj
        match j, hj with
        | 0, hj => simp at hj; subst hj; exact new_cell (by simp) 0
      case c2 => intro u hu; simp at hu; subst hu; rfl
      case c3 => unfold maxLen; have := HO.out; omega
      case c4 => have := HO.out; omega
      case c5 => simp; exact Nat.le_succ_of_le HLE.out
      intro v' w2 hown' hgrow _
      have hF := FIN.out 13 v' _ w2 (by decide) (by decide) ?hb1 ?hr1 hown' _ hgrow
      case hb1 =>
        refine below_set1 ?_ HG.out _ _
        repeat (first | exact Below.refl _ _ | apply pw_below_drewN | apply below_drew1)
      case hr1 => rw [← HW.out]; exact (HRq.out.drewN _).set1 _
      obtain ⟨r1, r2, r3, r4⟩ := hF
      obtain ⟨ao, n', cap, rfl⟩ : ∃ ao n' cap, v' = .slice ao n' cap := by
        rcases hown'.2 with ⟨hv, _⟩ | ⟨g, cap, cur, fz, hv, _⟩
        · exact ⟨_, _, _, hv⟩
        · exact ⟨_, _, _, hv⟩
      clear hown' hgrow hL2
      go_wp2
      go_ret
      exact ⟨rfl, fun _ => ⟨_, r1⟩, r2⟩
    · rw [hb] at hx7
      go_enter Tryd.func56, Tryd.ntmps56
      go_wp2
      go_quiet (fail)
      go_wp2
      go_quiet (fail)
      have hL2 := fun k u => ((HRq.out.drewN k).set1 u).2.1
      go_wp2_with (at_builtin; refine wpList_append_ownF _ rfl _ _ 92 rfl B 5 i0 (.int .u8 0) 1 1 Tryd.underlying92 hi hz0 hz1 hz2 rfl (by decide) _ _ _ rfl ((hL2 _ _).alloc _) ⟨w.heap.size, 0, none⟩ 1 1 [.int .u8 9] rfl rfl ?c1 ?c2 ?c3 ?c4 ?c5 ?_)
      case c1 =>
        intro j u hj
        match j, hj with
        | 0, hj => simp at hj; subst hj; exact new_cell (by simp) 0
      case c2 => intro u hu; simp at hu; subst hu; rfl
      case c3 => unfold maxLen; have := HO.out; omega
      case c4 => have := HO.out; omega
      case c5 => simp; exact Nat.le_succ_of_le HLE.out
      intro v' w2 hown' hgrow _
      have hF := FIN.out 9 v' _ w2 (by decide) (by decide) ?hb1 ?hr1 hown' _ hgrow
      case hb1 =>
        refine below_set1 ?_ HG.out _ _
        repeat (first | exact Below.refl _ _ | apply pw_below_drewN | apply below_drew1)
      case hr1 => rw [← HW.out]; exact (HRq.out.drewN _).set1 _
      obtain ⟨r1, r2, r3, r4⟩ := hF
      obtain ⟨ao, n', cap, rfl⟩ : ∃ ao n' cap, v' = .slice ao n' cap := by
        rcases hown'.2 with ⟨hv, _⟩ | ⟨g, cap, cur, fz, hv, _⟩
        · exact ⟨_, _, _, hv⟩
        · exact ⟨_, _, _, hv⟩
      clear hown' hgrow hL2
      go_wp2
      go_ret
      exact ⟨rfl, fun _ => ⟨_, r1⟩, r2⟩
    · rw [hb] at hx7
      go_enter Tryd.func56, Tryd.ntmps56
      go_wp2
      go_quiet (fail)
      go_wp2
      go_quiet (fail)
      have hL2 := fun k u => ((HRq.out.drewN k).set1 u).2.1
      go_wp2_with (at_builtin; refine wpList_append_ownF _ rfl _ _ 92 rfl B 5 i0 (.int .u8 0) 1 1 Tryd.underlying92 hi hz0 hz1 hz2 rfl (by decide) _ _ _ rfl ((hL2 _ _).alloc _) ⟨w.heap.size, 0, none⟩ 1 1 [.int .u8 34] rfl rfl ?c1 ?c2 ?c3 ?c4 ?c5 ?_)
      case c1 =>
        intro j u hj
        match j, hj with
        | 0, hj => simp at hj; subst hj; exact new_cell (by simp) 0
      case c2 => intro u hu; simp at hu; subst hu; rfl
      case c3 => unfold maxLen; have := HO.out; omega
      case c4 => have := HO.out; omega
      case c5 => simp; exact Nat.le_succ_of_le HLE.out
      intro v' w2 hown' hgrow _
      have hF := FIN.out 34 v' _ w2 (by decide) (by decide) ?hb1 ?hr1 hown' _ hgrow
      case hb1 =>
        refine below_set1 ?_ HG.out _ _
        repeat (first | exact Below.refl _ _ | apply pw_below_drewN | apply below_drew1)
      case hr1 => rw [← HW.out]; exact (HRq.out.drewN _).set1 _
      obtain ⟨r1, r2, r3, r4⟩ := hF
      obtain ⟨ao, n', cap, rfl⟩ : ∃ ao n' cap, v' = .slice ao n' cap := by
        rcases hown'.2 with ⟨hv, _⟩ | ⟨g, cap, cur, fz, hv, _⟩
        · exact ⟨_, _, _, hv⟩
        · exact ⟨_, _, _, hv⟩
      clear hown' hgrow hL2
      go_wp2
      go_ret
      exact ⟨rfl, fun _ => ⟨_, r1⟩, r2⟩
    · rw [hb] at hx7
      go_enter Tryd.func56, Tryd.ntmps56
      go_wp2
      go_quiet (fail)
      go_wp2
      go_quiet (fail)
      have hL2 := fun k u => ((HRq.out.drewN k).set1 u).2.1
      go_wp2_with (at_builtin; refine wpList_append_ownF _ rfl _ _ 92 rfl B 5 i0 (.int .u8 0) 1 1 Tryd.underlying92 hi hz0 hz1 hz2 rfl (by decide) _ _ _ rfl ((hL2 _ _).alloc _) ⟨w.heap.size, 0, none⟩ 1 1 [.int .u8 92] rfl rfl ?c1 ?c2 ?c3 ?c4 ?c5 ?_)
      case c1 =>
        intro j u hj
        match j, hj with
        | 0, hj => simp at hj; subst hj; exact new_cell (by simp) 0
      case c2 => intro u hu; simp at hu; subst hu; rfl
      case c3 => unfold maxLen; have := HO.out; omega
      case c4 => have := HO.out; omega
      case c5 => simp; exact Nat.le_succ_of_le HLE.out
      intro v' w2 hown' hgrow _
      have hF := FIN.out 92 v' _ w2 (by decide) (by decide) ?hb1 ?hr1 hown' _ hgrow
      case hb1 =>
        refine below_set1 ?_ HG.out _ _
        repeat (first | exact Below.refl _ _ | apply pw_below_drewN | apply below_drew1)
      case hr1 => rw [← HW.out]; exact (HRq.out.drewN _).set1 _
      obtain ⟨r1, r2, r3, r4⟩ := hF
      obtain ⟨ao, n', cap, rfl⟩ : ∃ ao n' cap, v' = .slice ao n' cap := by
        rcases hown'.2 with ⟨hv, _⟩ | ⟨g, cap, cur, fz, hv, _⟩
        · exact ⟨_, _, _, hv⟩
        · exact ⟨_, _, _, hv⟩
      clear hown' hgrow hL2
      go_wp2
      go_ret
      exact ⟨rfl, fun _ => ⟨_, r1⟩, r2⟩
    · rw [hb] at hx7
      go_enter Tryd.func56, Tryd.ntmps56
      go_wp2
      go_quiet (fail)
      go_wp2
      go_quiet (fail)
      have hL2 := fun k u => ((HRq.out.drewN k).set1 u).2.1
      go_wp2_with (at_builtin; refine wpList_append_ownF _ rfl _ _ 92 rfl B 5 i0 (.int .u8 0) 1 1 Tryd.underlying92 hi hz0 hz1 hz2 rfl (by decide) _ _ _ rfl ((hL2 _ _).alloc _) ⟨w.heap.size, 0, none⟩ 1 1 [.int .u8 47] rfl rfl ?c1 ?c2 ?c3 ?c4 ?c5 ?_)
      case c1 =>
        intro j u hj
        match j, hj with
        | 0, hj => simp at hj; subst hj; exact new_cell (by simp) 0
      case c2 => intro u hu; simp at hu; subst hu; rfl
      case c3 => unfold maxLen; have := HO.out; omega
      case c4 => have := HO.out; omega
      case c5 => simp; exact Nat.le_succ_of_le HLE.out
      intro v' w2 hown' hgrow _
      have hF := FIN.out 47 v' _ w2 (by decide) (by decide) ?hb1 ?hr1 hown' _ hgrow
      case hb1 =>
        refine below_set1 ?_ HG.out _ _
        repeat (first | exact Below.refl _ _ | apply pw_below_drewN | apply below_drew1)
      case hr1 => rw [← HW.out]; exact (HRq.out.drewN _).set1 _
      obtain ⟨r1, r2, r3, r4⟩ := hF
      obtain ⟨ao, n', cap, rfl⟩ : ∃ ao n' cap, v' = .slice ao n' cap := by
        rcases hown'.2 with ⟨hv, _⟩ | ⟨g, cap, cur, fz, hv, _⟩
        · exact ⟨_, _, _, hv⟩
        · exact ⟨_, _, _, hv⟩
      clear hown' hgrow hL2
      go_wp2
      go_ret
      exact ⟨rfl, fun _ => ⟨_, r1⟩, r2⟩
end Go.Proofs.YtnkkbiabloodaaaDoor.GUt
