/- utf's reader: unicode and escape: their contracts, where an escape is right and stands for one character. No conditions beside those stated. -/
import Derived.Test.YtpncpefppifgdaaGreatDoorGUtRead
import Derived.Lib.FrozenHead2
namespace Go.Proofs.YtpncpefppifgdaaGreatDoor.GUt
open Go.RowKit Go.Shelf Go.Proofs.YtpncpefppifgdaaGreatDoorW.PrintWords Go.Proofs.YtpncpefppifgdaaGreatDoorW.PrintLast Go.Proofs.YtpncpefppifgdaaGreatDoorW.PrintMore
set_option linter.unusedVariables false
theorem jL {W : World} {cs : Array Value} {t : TypeId} {n : Nat} (hn : W.heap.size = n) (j : Nat) : (W.alloc (.cells cs t)).cell? ⟨n, j, none⟩ = cs[j]? := by
  subst hn
  exact ah (World.alloc_heap_new W _) j
def tK (v : Int) : ByteArray := strOfNums (Lib.encodeRuneZ v)
theorem zA (v : Int) (h0 : 0 ≤ v) (h1 : v ≤ 65535) : ∀ x ∈ Lib.encodeRuneZ v, 0 ≤ x ∧ x < 256 := by
  intro x hx
  unfold Lib.encodeRuneZ at hx
  split at hx
  · simp only [List.mem_singleton] at hx; omega
  split at hx
  · simp only [List.mem_cons, List.mem_nil_iff, or_false] at hx; omega
  split at hx
  · simp only [List.mem_cons, List.mem_nil_iff, or_false] at hx; omega
  split at hx
  · omega
  · simp only [List.mem_cons, List.mem_nil_iff, or_false] at hx; omega
theorem rY (v : Int) (h0 : 0 ≤ v) (h1 : v ≤ 65535) : Lib.runeCells v = Lib.strCells (tK v) := (oJ _ (zA v h0 h1)).symm
theorem wF (v : Int) : (Lib.runeCells v).length = (tK v).size := by rw [tK, iQ, Lib.runeCells, List.length_map]
def Am (s : ByteArray) (p : Nat) (out : ByteArray) : Option ByteArray := (wE s 4 p 0).bind fun v => if 0 ≤ v ∧ v ≤ 65535 ∧ (v < 55296 ∨ 57343 < v) ∧ out.size ≤ 1000000000 then some (out ++ tK v) else none
set_option maxHeartbeats 4000000 in
set_option maxRecDepth 100000 in
theorem uni.calls (B g : Nat) (s : ByteArray) (p : Nat) (hs : s.size ≤ 1000000000) (out r : ByteArray) (v : Value) (w : World) (hR : Rdr B g s (p : Int) out v w) (h : Am s p out = some r) :
    Calls Tryz.prog 124 #[.pointer (some ⟨g, 0, none⟩)] w fun e w' => e = .returned (.int .i64 0) ∧ (∃ v', Rdr B g s ((p + 4 : Nat) : Int) r v' w') ∧ Below B w w' := by
  obtain ⟨x, hx, h⟩ := Option.bind_eq_some_iff.1 h
  have hc : 0 ≤ x ∧ x ≤ 65535 ∧ (x < 55296 ∨ 57343 < x) ∧ out.size ≤ 1000000000 := Decidable.by_contra fun hn => by rw [if_neg hn] at h; cases h
  rw [if_pos hc] at h
  have hr := Option.some.inj h
  subst hr
  obtain ⟨x0, x1, x2, ho⟩ := hc
  have hlow : mM.f x = some false := by
    unfold mM.f
    by_cases c : x ≥ 56320
    · rw [if_pos c]; exact congrArg some (decide_eq_false (by omega))
    · rw [if_neg c]
  have hhigh : kX.f x = some false := by
    unfold kX.f
    by_cases c : x ≥ 55296
    · rw [if_pos c]; exact congrArg some (decide_eq_false (by omega))
    · rw [if_neg c]
  have X0 := Aside0.mk x0
  have X1 := Aside0.mk x1
  have HO := Aside0.mk ho
  clear x0 x1 x2 ho h
  have HR := Aside0.mk hR
  clear hR
  go_enter Tryz.func124, Tryz.ntmps124
  go_wp2_with (first | (go_at_call 129; refine (hex.calls B g s p hs out v x _ HR.out hx).mono ?_; rintro e w1 ⟨rfl, Bw, hB1⟩; have HR1 := Aside0.mk Bw; have HB1 := Aside0.mk hB1; have h2 := Bw.c2; have f2 := Bw.fz 2; clear Bw hB1) | (go_at_call 130; refine (mM.calls x false _ hlow).mono ?_; rintro e w' ⟨rfl, ⟨nd, rfl⟩⟩) | (go_at_call 131; refine (kX.calls x false _ hhigh).mono ?_; rintro e w' ⟨rfl, ⟨nd, rfl⟩⟩))
  have hle : B ≤ w1.heap.size := Nat.le_trans HR1.out.2.2 (Nat.le_of_lt HR1.out.lt)
  have hroom : out.size + 4 ≤ 140737488355328 := by have := HO.out; omega
  have AR := fun wz h1 h2 => Tryz.utf8_AppendRune_row B v out.size (Lib.strCells out) x (by have := X0.out; omega) (by have := X1.out; omega) wz h1 hroom h2
  refine (AR _ ?h1 ?h2).mono ?_
  case h1 => exact HR1.out.2.1
  case h2 => exact hle
  clear AR
  rintro e w2 ⟨v', rfl, hown, o, hgrow⟩
  rw [wF, rY x X0.out X1.out, lM, ← ByteArray.size_append] at hown
  have hne : some g ≠ v.ownBlock := fun e => oK HR1.out.2.1 HR1.out.1 (by decide) e.symm
  have hg2 : w2.heap[g]? = some (.cells #[.string s, .int .i64 ((p + 4 : Nat) : Int), v] 187 (0, 0)) := by
    rw [hgrow.block g (by simp; exact Nat.lt_succ_of_lt HR1.out.lt) hne]
    exact (Below.heap_alloc _ o g HR1.out.lt).trans HR1.out.1
  have HG2 := Aside0.mk hg2
  have HOW := Aside0.mk hown
  have hBw : Below B w w2 := by
    refine Below.grown (Below.alloc ?hb ?hl o) hgrow ?hs (fun k hk => (qD HR1.out.2.1 k hk).1)
    case hb => repeat (first | exact HB1.out | apply bB | apply bL)
    case hl => exact hle
    case hs => simp; omega
  have HBW := Aside0.mk hBw
  have d2 : w2.cell? ⟨g, 2, none⟩ = some v := (ah hg2 2).trans rfl
  have e2 := av hg2 2
  obtain ⟨ao, n', cap, rfl⟩ : ∃ ao n' cap, v' = .slice ao n' cap := by
    rcases hown.2 with ⟨hv, _⟩ | ⟨g, cap, cur, fz, hv, _⟩
    · exact ⟨_, _, _, hv⟩
    · exact ⟨_, _, _, hv⟩
  clear h2 f2 hgrow hg2 hown hBw hne
  go_wp2
  go_ret
  exact ⟨rfl, ⟨_, Rdr.set2 HG2.out HOW.out HR1.out.2.2⟩, fP HBW.out HR1.out.2.2 _ _⟩
def Ao (b : Int) : Option Int := if b = 98 then some 8 else if b = 102 then some 12 else if b = 110 then some 10 else if b = 114 then some 13 else if b = 116 then some 9 else if b = 34 then some 34 else if b = 92 then some 92 else none
def xM (s : ByteArray) (p : Nat) (out : ByteArray) : Option (ByteArray × Nat) :=
  if p < s.size ∧ out.size ≤ 1000000000 then (if bt s p = 117 then (Am s (p + 1) out).bind fun r => some (r, p + 5) else (Ao (bt s p)).bind fun c => some (out ++ strOfNums [c], p + 1)) else none
set_option maxHeartbeats 8000000 in
set_option maxRecDepth 100000 in
theorem esc.calls (B g : Nat) (s : ByteArray) (p : Nat) (hs : s.size ≤ 1000000000) (out r : ByteArray) (p' : Nat) (v : Value) (w : World) (hR : Rdr B g s (p : Int) out v w) (h : xM s p out = some (r, p')) :
    Calls Tryz.prog 116 #[.pointer (some ⟨g, 0, none⟩)] w fun e w' => e = .returned (.int .i64 0) ∧ (∃ v', Rdr B g s (p' : Int) r v' w') ∧ Below B w w' := by
  have hc : p < s.size ∧ out.size ≤ 1000000000 := Decidable.by_contra fun hn => by rw [xM, if_neg hn] at h; cases h
  rw [xM, if_pos hc] at h
  obtain ⟨hps, ho⟩ := hc
  obtain ⟨q, hq⟩ : ∃ q : Int, (p : Int) = q := ⟨_, rfl⟩
  have HR := Aside0.mk hR
  rw [hq] at hR h
  have h0 := hR.c0
  have h1 := hR.c1
  have h2 := hR.c2
  have f0 := hR.fz 0
  have f1 := hR.fz 1
  have f2 := hR.fz 2
  have c3 : decide ((s.size : Int) ≤ q) = false := decide_eq_false (by omega)
  have p7 : (0 ≤ q) = True := eq_true (by omega)
  have q7 : (q < (s.size : Int)) = True := eq_true (by omega)
  have hx7 := eP s q
  have hw : wrap64 (q + 1) = ((p + 1 : Nat) : Int) := by rw [bW (by omega) (by omega)]; omega
  have HW := Aside0.mk hw
  have HO := Aside0.mk ho
  have HG := Aside0.mk hR.2.2
  have HRq := Aside0.mk hR
  have HL := Aside0.mk hR.lt
  clear hw ho hps hq hR
  by_cases hu : bt s q = 117
  · rw [if_pos hu] at h
    obtain ⟨r1, hr1, h⟩ := Option.bind_eq_some_iff.1 h
    injection h with h
    injection h with e1 e2
    subst e1 e2
    rw [hu] at hx7
    go_enter Tryz.func116, Tryz.ntmps116
    go_wp2_with (fail)
    repeat (go_quiet (fail); try go_wp2_with (first | (go_at_call 124; refine (uni.calls B g s (p + 1) hs out r1 v _ (by rw [← HW.out]; exact (HRq.out.drewN _).set1 _) hr1).mono ?_; rintro e w3 ⟨rfl, Bz, hB3⟩)))
    go_ret
    refine ⟨rfl, Bz, Below.trans ?_ hB3⟩
    refine fP ?_ HG.out _ _
    repeat (first | exact Below.refl _ _ | apply bB | apply bL)
  · rw [if_neg hu] at h
    obtain ⟨c, hc, h⟩ := Option.bind_eq_some_iff.1 h
    injection h with h
    injection h with e1 e2
    subst e1 e2
    have hb : (bt s q = 98 ∧ c = 8) ∨ (bt s q = 102 ∧ c = 12) ∨ (bt s q = 110 ∧ c = 10) ∨ (bt s q = 114 ∧ c = 13) ∨ (bt s q = 116 ∧ c = 9) ∨ (bt s q = 34 ∧ c = 34) ∨ (bt s q = 92 ∧ c = 92) := by
      unfold Ao at hc
      repeat' split at hc
      all_goals first | (cases hc; done) | (have hc := Option.some.inj hc; omega)
    obtain ⟨i0, hi, hz0, hz1, hz2⟩ := info_parts Tryz.Builder_Extra_169.infoByte
    have hle : B ≤ w.heap.size := Nat.le_trans HG.out (Nat.le_of_lt HL.out)
    have HLE := Aside0.mk hle
    clear hle hc hu
    have fin : ∀ (c : Int) (v' : Value) (w0 w2 : World), 0 ≤ c → c < 256 → Below B w w0 → Rdr B g s ((p + 1 : Nat) : Int) out v w0 → w2.ownsRowF B 5 1 v' (out.size + 1) (Lib.strCells out ++ [.int .u8 c]) → ∀ o, (w0.alloc o).grownBy w2 v.ownBlock →
        Rdr B g s ((p + 1 : Nat) : Int) (out ++ strOfNums [c]) v' (w2.setCell ⟨g, 2, none⟩ v') ∧ Below B w (w2.setCell ⟨g, 2, none⟩ v') ∧ w2.cell? ⟨g, 2, none⟩ = some v ∧ w2.frozen? ⟨g, 2, none⟩ = false := by
      intro c v' w0 w2 c0 c1 hB0 hR0 hown o hgrow
      rw [iY _ _ c0 c1, show out.size + 1 = (out ++ strOfNums [c]).size by rw [ByteArray.size_append, iQ]; rfl] at hown
      have hne : some g ≠ v.ownBlock := fun e => oK hR0.2.1 hR0.1 (by decide) e.symm
      have hg2 : w2.heap[g]? = some (.cells #[.string s, .int .i64 ((p + 1 : Nat) : Int), v] 187 (0, 0)) := by
        rw [hgrow.block g (by simp; exact Nat.lt_succ_of_lt hR0.lt) hne]
        exact (Below.heap_alloc w0 o g hR0.lt).trans hR0.1
      have hl0 : B ≤ w0.heap.size := Nat.le_trans hR0.2.2 (Nat.le_of_lt hR0.lt)
      refine ⟨Rdr.set2 hg2 hown hR0.2.2, fP ((hB0.alloc hl0 o).grown hgrow (by simp; omega) (fun k hk => (qD hR0.2.1 k hk).1)) hR0.2.2 _ _, (ah hg2 2).trans rfl, av hg2 2⟩
    have FIN := Aside0.mk fin
    clear fin
    rcases hb with ⟨hb, rfl⟩ | ⟨hb, rfl⟩ | ⟨hb, rfl⟩ | ⟨hb, rfl⟩ | ⟨hb, rfl⟩ | ⟨hb, rfl⟩ | ⟨hb, rfl⟩
    · rw [hb] at hx7
      go_enter Tryz.func116, Tryz.ntmps116
      go_wp2
      go_quiet (fail)
      go_wp2
      go_quiet (fail)
      have hL2 := fun k u => ((HRq.out.drewN k).set1 u).2.1
      go_wp2_with (at_builtin; refine wpList_append_ownF _ rfl _ _ 138 rfl B 5 i0 (.int .u8 0) 1 1 Tryz.underlying138 hi hz0 hz1 hz2 rfl (by decide) _ _ _ rfl ((hL2 _ _).alloc _) ⟨w.heap.size, 0, none⟩ 1 1 [.int .u8 8] rfl rfl ?c1 ?c2 ?c3 ?c4 ?c5 ?_)
      case c1 =>
        intro j u hj
        match j, hj with
        | 0, hj => simp at hj; subst hj; exact jL (by simp) 0
      case c2 => intro u hu; simp at hu; subst hu; rfl
      case c3 => unfold maxLen; have := HO.out; omega
      case c4 => have := HO.out; omega
      case c5 => simp; exact Nat.le_succ_of_le HLE.out
      intro v' w2 hown' hgrow _
      have hF := FIN.out 8 v' _ w2 (by decide) (by decide) ?hb1 ?hr1 hown' _ hgrow
      case hb1 =>
        refine fP ?_ HG.out _ _
        repeat (first | exact Below.refl _ _ | apply bB | apply bL)
      case hr1 => rw [← HW.out]; exact (HRq.out.drewN _).set1 _
      obtain ⟨r1, r2, r3, r4⟩ := hF
      obtain ⟨ao, n', cap, rfl⟩ : ∃ ao n' cap, v' = .slice ao n' cap := by
        rcases hown'.2 with ⟨hv, _⟩ | ⟨g, cap, cur, fz, hv, _⟩
        · exact ⟨_, _, _, hv⟩
        · exact ⟨_, _, _, hv⟩
      clear hown' hgrow hL2
      go_wp2
      go_ret
      exact ⟨rfl, ⟨_, r1⟩, r2⟩
    · rw [hb] at hx7
      go_enter Tryz.func116, Tryz.ntmps116
      go_wp2
      go_quiet (fail)
      go_wp2
      go_quiet (fail)
      have hL2 := fun k u => ((HRq.out.drewN k).set1 u).2.1
      go_wp2_with (at_builtin; refine wpList_append_ownF _ rfl _ _ 138 rfl B 5 i0 (.int .u8 0) 1 1 Tryz.underlying138 hi hz0 hz1 hz2 rfl (by decide) _ _ _ rfl ((hL2 _ _).alloc _) ⟨w.heap.size, 0, none⟩ 1 1 [.int .u8 12] rfl rfl ?c1 ?c2 ?c3 ?c4 ?c5 ?_)
      case c1 =>
        intro j u hj
        match j, hj with
        | 0, hj => simp at hj; subst hj; exact jL (by simp) 0
      case c2 => intro u hu; simp at hu; subst hu; rfl
      case c3 => unfold maxLen; have := HO.out; omega
      case c4 => have := HO.out; omega
      case c5 => simp; exact Nat.le_succ_of_le HLE.out
      intro v' w2 hown' hgrow _
      have hF := FIN.out 12 v' _ w2 (by decide) (by decide) ?hb1 ?hr1 hown' _ hgrow
      case hb1 =>
        refine fP ?_ HG.out _ _
        repeat (first | exact Below.refl _ _ | apply bB | apply bL)
      case hr1 => rw [← HW.out]; exact (HRq.out.drewN _).set1 _
      obtain ⟨r1, r2, r3, r4⟩ := hF
      obtain ⟨ao, n', cap, rfl⟩ : ∃ ao n' cap, v' = .slice ao n' cap := by
        rcases hown'.2 with ⟨hv, _⟩ | ⟨g, cap, cur, fz, hv, _⟩
        · exact ⟨_, _, _, hv⟩
        · exact ⟨_, _, _, hv⟩
      clear hown' hgrow hL2
      go_wp2
      go_ret
      exact ⟨rfl, ⟨_, r1⟩, r2⟩
    · rw [hb] at hx7
      go_enter Tryz.func116, Tryz.ntmps116
      go_wp2
      go_quiet (fail)
      go_wp2
      go_quiet (fail)
      have hL2 := fun k u => ((HRq.out.drewN k).set1 u).2.1
      go_wp2_with (at_builtin; refine wpList_append_ownF _ rfl _ _ 138 rfl B 5 i0 (.int .u8 0) 1 1 Tryz.underlying138 hi hz0 hz1 hz2 rfl (by decide) _ _ _ rfl ((hL2 _ _).alloc _) ⟨w.heap.size, 0, none⟩ 1 1 [.int .u8 10] rfl rfl ?c1 ?c2 ?c3 ?c4 ?c5 ?_)
      case c1 =>
        intro j u hj
        match j, hj with
        | 0, hj => simp at hj; subst hj; exact jL (by simp) 0
      case c2 => intro u hu; simp at hu; subst hu; rfl
      case c3 => unfold maxLen; have := HO.out; omega
      case c4 => have := HO.out; omega
      case c5 => simp; exact Nat.le_succ_of_le HLE.out
      intro v' w2 hown' hgrow _
      have hF := FIN.out 10 v' _ w2 (by decide) (by decide) ?hb1 ?hr1 hown' _ hgrow
      case hb1 =>
        refine fP ?_ HG.out _ _
        repeat (first | exact Below.refl _ _ | apply bB | apply bL)
      case hr1 => rw [← HW.out]; exact (HRq.out.drewN _).set1 _
      obtain ⟨r1, r2, r3, r4⟩ := hF
      obtain ⟨ao, n', cap, rfl⟩ : ∃ ao n' cap, v' = .slice ao n' cap := by
        rcases hown'.2 with ⟨hv, _⟩ | ⟨g, cap, cur, fz, hv, _⟩
        · exact ⟨_, _, _, hv⟩
        · exact ⟨_, _, _, hv⟩
      clear hown' hgrow hL2
      go_wp2
      go_ret
      exact ⟨rfl, ⟨_, r1⟩, r2⟩
    · rw [hb] at hx7
      go_enter Tryz.func116, Tryz.ntmps116
      go_wp2
      go_quiet (fail)
      go_wp2
      go_quiet (fail)
      have hL2 := fun k u => ((HRq.out.drewN k).set1 u).2.1
      go_wp2_with (at_builtin; refine wpList_append_ownF _ rfl _ _ 138 rfl B 5 i0 (.int .u8 0) 1 1 Tryz.underlying138 hi hz0 hz1 hz2 rfl (by decide) _ _ _ rfl ((hL2 _ _).alloc _) ⟨w.heap.size, 0, none⟩ 1 1 [.int .u8 13] rfl rfl ?c1 ?c2 ?c3 ?c4 ?c5 ?_)
      case c1 =>
        intro j u hj
        match j, hj with
        | 0, hj => simp at hj; subst hj; exact jL (by simp) 0
      case c2 => intro u hu; simp at hu; subst hu; rfl
      case c3 => unfold maxLen; have := HO.out; omega
      case c4 => have := HO.out; omega
      case c5 => simp; exact Nat.le_succ_of_le HLE.out
      intro v' w2 hown' hgrow _
      have hF := FIN.out 13 v' _ w2 (by decide) (by decide) ?hb1 ?hr1 hown' _ hgrow
      case hb1 =>
        refine fP ?_ HG.out _ _
        repeat (first | exact Below.refl _ _ | apply bB | apply bL)
      case hr1 => rw [← HW.out]; exact (HRq.out.drewN _).set1 _
      obtain ⟨r1, r2, r3, r4⟩ := hF
      obtain ⟨ao, n', cap, rfl⟩ : ∃ ao n' cap, v' = .slice ao n' cap := by
        rcases hown'.2 with ⟨hv, _⟩ | ⟨g, cap, cur, fz, hv, _⟩
        · exact ⟨_, _, _, hv⟩
        · exact ⟨_, _, _, hv⟩
      clear hown' hgrow hL2
      go_wp2
      go_ret
      exact ⟨rfl, ⟨_, r1⟩, r2⟩
    · rw [hb] at hx7
      go_enter Tryz.func116, Tryz.ntmps116
      go_wp2
      go_quiet (fail)
      go_wp2
      go_quiet (fail)
      have hL2 := fun k u => ((HRq.out.drewN k).set1 u).2.1
      go_wp2_with (at_builtin; refine wpList_append_ownF _ rfl _ _ 138 rfl B 5 i0 (.int .u8 0) 1 1 Tryz.underlying138 hi hz0 hz1 hz2 rfl (by decide) _ _ _ rfl ((hL2 _ _).alloc _) ⟨w.heap.size, 0, none⟩ 1 1 [.int .u8 9] rfl rfl ?c1 ?c2 ?c3 ?c4 ?c5 ?_)
      case c1 =>
        intro j u hj
        match j, hj with
        | 0, hj => simp at hj; subst hj; exact jL (by simp) 0
      case c2 => intro u hu; simp at hu; subst hu; rfl
      case c3 => unfold maxLen; have := HO.out; omega
      case c4 => have := HO.out; omega
      case c5 => simp; exact Nat.le_succ_of_le HLE.out
      intro v' w2 hown' hgrow _
      have hF := FIN.out 9 v' _ w2 (by decide) (by decide) ?hb1 ?hr1 hown' _ hgrow
      case hb1 =>
        refine fP ?_ HG.out _ _
        repeat (first | exact Below.refl _ _ | apply bB | apply bL)
      case hr1 => rw [← HW.out]; exact (HRq.out.drewN _).set1 _
      obtain ⟨r1, r2, r3, r4⟩ := hF
      obtain ⟨ao, n', cap, rfl⟩ : ∃ ao n' cap, v' = .slice ao n' cap := by
        rcases hown'.2 with ⟨hv, _⟩ | ⟨g, cap, cur, fz, hv, _⟩
        · exact ⟨_, _, _, hv⟩
        · exact ⟨_, _, _, hv⟩
      clear hown' hgrow hL2
      go_wp2
      go_ret
      exact ⟨rfl, ⟨_, r1⟩, r2⟩
    · rw [hb] at hx7
      go_enter Tryz.func116, Tryz.ntmps116
      go_wp2
      go_quiet (fail)
      go_wp2
      go_quiet (fail)
      have hL2 := fun k u => ((HRq.out.drewN k).set1 u).2.1
      go_wp2_with (at_builtin; refine wpList_append_ownF _ rfl _ _ 138 rfl B 5 i0 (.int .u8 0) 1 1 Tryz.underlying138 hi hz0 hz1 hz2 rfl (by decide) _ _ _ rfl ((hL2 _ _).alloc _) ⟨w.heap.size, 0, none⟩ 1 1 [.int .u8 34] rfl rfl ?c1 ?c2 ?c3 ?c4 ?c5 ?_)
      case c1 =>
        intro j u hj
        match j, hj with
        | 0, hj => simp at hj; subst hj; exact jL (by simp) 0
      case c2 => intro u hu; simp at hu; subst hu; rfl
      case c3 => unfold maxLen; have := HO.out; omega
      case c4 => have := HO.out; omega
      case c5 => simp; exact Nat.le_succ_of_le HLE.out
      intro v' w2 hown' hgrow _
      have hF := FIN.out 34 v' _ w2 (by decide) (by decide) ?hb1 ?hr1 hown' _ hgrow
      case hb1 =>
        refine fP ?_ HG.out _ _
        repeat (first | exact Below.refl _ _ | apply bB | apply bL)
      case hr1 => rw [← HW.out]; exact (HRq.out.drewN _).set1 _
      obtain ⟨r1, r2, r3, r4⟩ := hF
      obtain ⟨ao, n', cap, rfl⟩ : ∃ ao n' cap, v' = .slice ao n' cap := by
        rcases hown'.2 with ⟨hv, _⟩ | ⟨g, cap, cur, fz, hv, _⟩
        · exact ⟨_, _, _, hv⟩
        · exact ⟨_, _, _, hv⟩
      clear hown' hgrow hL2
      go_wp2
      go_ret
      exact ⟨rfl, ⟨_, r1⟩, r2⟩
    · rw [hb] at hx7
      go_enter Tryz.func116, Tryz.ntmps116
      go_wp2
      go_quiet (fail)
      go_wp2
      go_quiet (fail)
      have hL2 := fun k u => ((HRq.out.drewN k).set1 u).2.1
      go_wp2_with (at_builtin; refine wpList_append_ownF _ rfl _ _ 138 rfl B 5 i0 (.int .u8 0) 1 1 Tryz.underlying138 hi hz0 hz1 hz2 rfl (by decide) _ _ _ rfl ((hL2 _ _).alloc _) ⟨w.heap.size, 0, none⟩ 1 1 [.int .u8 92] rfl rfl ?c1 ?c2 ?c3 ?c4 ?c5 ?_)
      case c1 =>
        intro j u hj
        match j, hj with
        | 0, hj => simp at hj; subst hj; exact jL (by simp) 0
      case c2 => intro u hu; simp at hu; subst hu; rfl
      case c3 => unfold maxLen; have := HO.out; omega
      case c4 => have := HO.out; omega
      case c5 => simp; exact Nat.le_succ_of_le HLE.out
      intro v' w2 hown' hgrow _
      have hF := FIN.out 92 v' _ w2 (by decide) (by decide) ?hb1 ?hr1 hown' _ hgrow
      case hb1 =>
        refine fP ?_ HG.out _ _
        repeat (first | exact Below.refl _ _ | apply bB | apply bL)
      case hr1 => rw [← HW.out]; exact (HRq.out.drewN _).set1 _
      obtain ⟨r1, r2, r3, r4⟩ := hF
      obtain ⟨ao, n', cap, rfl⟩ : ∃ ao n' cap, v' = .slice ao n' cap := by
        rcases hown'.2 with ⟨hv, _⟩ | ⟨g, cap, cur, fz, hv, _⟩
        · exact ⟨_, _, _, hv⟩
        · exact ⟨_, _, _, hv⟩
      clear hown' hgrow hL2
      go_wp2
      go_ret
      exact ⟨rfl, ⟨_, r1⟩, r2⟩
end Go.Proofs.YtpncpefppifgdaaGreatDoor.GUt
