/- utf.Unquote: its contract, where what is read is right. No conditions beside those stated. -/
import Derived.Test.YtpncpefppifgdaaGreatDoorGUtEsc
import Derived.Test.YtpncpefppifgdaaGreatDoorGW
import Derived.Shelf.Unicode.DecodeAny
namespace Go.Proofs.YtpncpefppifgdaaGreatDoor.GUt
open Go.RowKit Go.Shelf Go.Proofs.YtpncpefppifgdaaGreatDoorW.PrintWords Go.Proofs.YtpncpefppifgdaaGreatDoorW.PrintLast Go.Proofs.YtpncpefppifgdaaGreatDoorW.PrintMore
set_option linter.unusedSimpArgs false
set_option linter.unusedVariables false
def pq (s : ByteArray) : Nat → Nat → ByteArray → Option (ByteArray × Int × Int)
  | 0, _, _ => none
  | k + 1, p, out =>
    if p < s.size then
      if bt s p = 34 then (if out.size > 4096 then some (⟨#[]⟩, 0, 2) else some (out, (p : Int) + 1, 0))
      else if bt s p = 92 then (xM s (p + 1) out).bind fun t => pq s k t.2 t.1
      else if bt s p < 32 then none
      else if (Lib.decodeGo (s.extract p s.size)).1 = 65533 ∧ (Lib.decodeGo (s.extract p s.size)).2 = 1 then none
      else if p + (Lib.decodeGo (s.extract p s.size)).2 ≤ s.size ∧ out.size ≤ 1000000000 then pq s k (p + (Lib.decodeGo (s.extract p s.size)).2) (out ++ s.extract p (p + (Lib.decodeGo (s.extract p s.size)).2)) else none
    else none
def dI.f (k : Nat) (s : ByteArray) : Option (ByteArray × Int × Int) := if 1 ≤ s.size ∧ s.size ≤ 1000000000 ∧ bt s 0 = 34 then pq s k 1 ⟨#[]⟩ else none
theorem ng (s : ByteArray) : ∀ (k p : Nat) (out : ByteArray), LeO (pq s k p out) (pq s (k + 1) p out)
  | 0, _, _ => LeO.none _
  | k + 1, p, out => by
    rw [pq, pq]
    exact LeO.ite (LeO.ite (LeO.refl _) (LeO.ite (LeO.bind (LeO.refl _) fun t => ng s k _ _) (LeO.ite (LeO.refl _) (LeO.ite (LeO.refl _) (LeO.ite (ng s k _ _) (LeO.refl _)))))) (LeO.refl _)
theorem dI.mono : ∀ a0 k, LeO (dI.f k a0) (dI.f (k + 1) a0) := fun a0 k => LeO.ite (ng a0 k _ _) (LeO.refl _)
theorem rZ (x : ByteArray) : strOfNums (bytesOf x) = x := by
  apply ByteArray.ext
  simp [strOfNums, bytesOf, Function.comp_def]
theorem wG {B : Nat} {v : Value} {out : ByteArray} {w : World} (h : w.ownsRowF B 5 1 v out.size (Lib.strCells out)) : (convert 138 9 v).run Tryz.prog w = .ok (.string out) w := by
  have hl : (bytesOf out).length = out.size := bytesOf_length out
  rcases h.2 with ⟨rfl, h0⟩ | ⟨g, cap, cur, fz, rfl, _⟩
  · have he : out = ByteArray.empty := ByteArray.ext (Array.eq_empty_of_size_eq_zero h0)
    rw [he]
    exact run_convert_bytes_nil w 138 5 Tryz.underlying138 Tryz.underlying5 0 0 9 Tryz.underlying9
  · refine (run_convert_bytes_arg w 138 5 Tryz.underlying138 Tryz.underlying5 g 0 out.size cap (bytesOf out) hl (fun i hi => ?_) 9 Tryz.underlying9).trans (by rw [rZ])
    have hc := h.cells (g := g) rfl i (.int .u8 ((bytesOf out).getD i 0)) (by
      simp [Lib.strCells, bytesOf, List.getElem?_eq_getElem (show i < out.data.toList.length by rw [Array.length_toList]; exact hi), List.getD_eq_getElem?_getD])
    have ha : (⟨g, 0, none⟩ : Addr).add i = ⟨g, 0 + i, none⟩ := by unfold Addr.add; split <;> simp_all
    rwa [ha] at hc
theorem uH {w : World} {B : Nat} {v : Value} {n : Nat} {xs : List Value} (h : w.ownsRowF B 5 1 v n xs) : ∃ A c, v = .slice A n c := by
  rcases h.2 with ⟨rfl, rfl⟩ | ⟨g, cap, cur, fz, rfl, _⟩
  · exact ⟨none, 0, rfl⟩
  · exact ⟨_, cap, rfl⟩
def dI.T10 : Bool × List (List Nat × List Nat) := (true, [([], []), ([], []), ([1], [1]), ([2], [2]), ([3], [3]), ([], []), ([], []), ([6], [6]), ([7], [7]), ([8], [8]), ([], []), ([10], [10]), ([11], [11]), ([12], [12]), ([], []), ([13, 14], [13, 14]), ([5, 9, 15], [5, 9, 15]), ([4, 16], [4, 16]), ([0, 0, 1, 2, 3, 4, 5, 6, 7, 8, 9, 10, 11, 12, 13, 14, 15, 16, 17], [0]), ([18, 0, 1, 2, 3, 4, 5, 6, 7, 8, 9, 10, 11, 12, 13, 14, 15, 16, 17], [18]), ([19, 17, 17, 0, 1, 2, 3, 4, 5, 6, 7, 8, 9, 10, 11, 12, 13, 14, 15, 16, 17], [17, 19])])
def dI.B10 : List Nat := [0, 0, 2, 6, 14, 0, 0, 64, 192, 448, 0, 1024, 3072, 7168, 0, 31744, 65504, 131070, 262143, 524287, 1048575]
theorem dI.wH : gT .any (opsOf Tryz.f102 10) = dI.T10 := by kernel_rfl
theorem dI.r9 : fO dI.T10.2 dI.B10 = true := by kernel_rfl
set_option maxHeartbeats 8000000 in
set_option maxRecDepth 100000 in
theorem dI.calls (k : Nat) (s : ByteArray) (r1 : ByteArray) (r2 r3 : Int) (w : World) (h : dI.f k s = some (r1, r2, r3)) (hG : GW.GW w) :
    Calls Tryz.prog 102 #[.string s] w fun e w' => e = .returned (.tuple #[.string r1, .int .i64 r2, .int .i64 r3]) ∧ Below w.heap.size w w' := by
  have hc : 1 ≤ s.size ∧ s.size ≤ 1000000000 ∧ bt s 0 = 34 := Decidable.by_contra fun hn => by rw [dI.f, if_neg hn] at h; cases h
  rw [dI.f, if_pos hc] at h
  obtain ⟨s1, s2, s3⟩ := hc
  have hne : ¬ s.toList = ([] : List UInt8) := by
    rw [ByteArray.toList_eq]
    intro e
    have h3 : s.data.toList.length = 0 := by rw [e]; rfl
    rw [Array.length_toList] at h3
    have h2 : s.data.size = s.size := rfl
    omega
  have hne1 : (s.toList == ([] : List UInt8)) = false := beq_eq_false_iff_ne.2 hne
  have hne2 : s.toList.isEmpty = false := by
    cases hq : s.toList with
    | nil => exact absurd hq hne
    | cons a l => rfl
  have q0 : (0 < s.size) = True := eq_true (by omega)
  have q1 : ((0 : Int) < (s.size : Int)) = True := eq_true (by omega)
  have hx0 : ∀ h : 0 < s.size, ((s[0]'h).toNat : Int) = 34 := by have := eP s 0; rw [s3] at this; simpa using this
  have HG := Aside0.mk hG
  have HS := Aside0.mk s2
  have R0 := Aside0.mk (show Rdr w.heap.size w.heap.size s ((1 : Nat) : Int) ⟨#[]⟩ (.slice none 0 0) (w.alloc (.cells #[.string s, .int .i64 1, .slice none 0 0] 187)) from ⟨World.alloc_heap_new w _, ⟨rfl, .inl ⟨rfl, rfl⟩⟩, Nat.le_refl _⟩)
  have B0 := Aside0.mk ((Below.refl w.heap.size w).alloc (Nat.le_refl _) (.cells #[.string s, .int .i64 1, .slice none 0 0] 187))
  clear hne s1 s2 s3 hG
  go_enter Tryz.func102, Tryz.ntmps102
  go_wp2
  go_loopg [] k (fun kq w' => ∃ (p : Nat) (out : ByteArray) (v : Value), Aside0 (pq s kq p out = some (r1, r2, r3)) ∧ Aside0 (Rdr w.heap.size w.heap.size s (p : Int) out v w') ∧ Aside0 (Below w.heap.size w w'))
  case atStart => exact ⟨1, ⟨#[]⟩, _, ⟨h⟩, R0, B0⟩
  case round =>
    clear h R0 B0
    obtain ⟨p, out, v, hE, HR, HB⟩ := hrel
    cases gk with
    | zero => exact absurd hE.out (by simp [pq])
    | succ k1 =>
      have hE1 := hE.out
      rw [pq] at hE1
      have hps : p < s.size := Decidable.by_contra fun hn => by rw [if_neg hn] at hE1; cases hE1
      rw [if_pos hps] at hE1
      obtain ⟨A, c, rfl⟩ := uH HR.out.2.1
      obtain ⟨q, hq⟩ : ∃ q : Int, (p : Int) = q := ⟨_, rfl⟩
      have HRq := HR
      rw [hq] at HRq hE1
      have h0 := HRq.out.c0
      have h1 := HRq.out.c1
      have h2 := HRq.out.c2
      have f0 := HRq.out.fz 0
      have f1 := HRq.out.fz 1
      have f2 := HRq.out.fz 2
      have c1 : decide (q < (s.size : Int)) = true := decide_eq_true (by omega)
      have p7 : (0 ≤ q) = True := eq_true (by omega)
      have q7 : (q < (s.size : Int)) = True := eq_true (by omega)
      have hx7 := eP s q
      have hw : wrap64 (q + 1) = ((p + 1 : Nat) : Int) := by have := HS.out; rw [bW (by omega) (by omega)]; omega
      have HW := Aside0.mk hw
      have HW2 := Aside0.mk (show wrap64 (q + 1) = q + 1 by have := HS.out; exact bW (by omega) (by omega))
      have HQ := Aside0.mk hq
      have HP := Aside0.mk hps
      clear hw hq hps hE
      by_cases Bw : bt s q = 34
      · rw [if_pos Bw] at hE1
        rw [Bw] at hx7
        by_cases hl : out.size > 4096
        · rw [if_pos hl] at hE1
          have hr := Option.some.inj hE1
          injection hr with e1 hr
          injection hr with e2 e3
          subst e1 e2 e3
          have cl : decide ((4096 : Int) < (out.size : Int)) = true := decide_eq_true (by omega)
          have BG : decide (4096 < out.size) = true := decide_eq_true (by omega)
          go_wp2
          go_ret3
          exact ⟨rfl, HB.out⟩
        · rw [if_neg hl] at hE1
          have hr := Option.some.inj hE1
          injection hr with e1 hr
          injection hr with e2 e3
          subst e1 e2 e3
          have cl : decide ((4096 : Int) < (out.size : Int)) = false := decide_eq_false (by omega)
          have BG : decide (4096 < out.size) = false := decide_eq_false (by omega)
          have hcv := fun m => wG (HRq.out.drewN m).2.1
          go_wp2
          go_quiet (fail)
          go_wp2
          go_ret3
          exact ⟨by rw [HW2.out]; rfl, by repeat (first | exact HB.out | apply bB | apply bL)⟩
      · rw [if_neg Bw] at hE1
        have BJ : (bt s q == 34) = false := beq_eq_false_iff_ne.2 Bw
        by_cases Bz : bt s q = 92
        · rw [if_pos Bz] at hE1
          rw [Bz] at hx7
          obtain ⟨⟨o2, p2⟩, hesc, hE2⟩ := Option.bind_eq_some_iff.1 hE1
          have HE := Aside0.mk hE2
          clear hE1 hE2
          go_wp2_with (first | (go_at_call 116; refine (esc.calls w.heap.size w.heap.size s (p + 1) HS.out out o2 p2 _ _ (by rw [← HW.out]; exact HRq.out.set1 _) hesc).mono ?_; rintro e w3 ⟨rfl, ⟨v3, BH⟩, hB3⟩))
          go_roundg k1
          case measure => exact Nat.lt_succ_self k1
          case rel => exact ⟨p2, o2, v3, HE, ⟨BH⟩, ⟨(fP HB.out (Nat.le_refl _) _ _).trans hB3⟩⟩
        · rw [if_neg Bz] at hE1
          have BK : (bt s q == 92) = false := beq_eq_false_iff_ne.2 Bz
          have h32 : ¬ bt s q < 32 := fun hn => by rw [if_pos hn] at hE1; cases hE1
          rw [if_neg h32] at hE1
          have BL : decide (bt s q < 32) = false := decide_eq_false h32
          obtain ⟨⟨cc, nn⟩, hdec⟩ : ∃ t, Lib.decodeGo (s.extract p s.size) = t := ⟨_, rfl⟩
          rw [hdec] at hE1
          have hbad : ¬ (cc = 65533 ∧ nn = 1) := fun hn => by rw [if_pos hn] at hE1; cases hE1
          rw [if_neg hbad] at hE1
          have hfit : p + nn ≤ s.size ∧ out.size ≤ 1000000000 := Decidable.by_contra fun hn => by rw [if_neg hn] at hE1; cases hE1
          rw [if_pos hfit] at hE1
          have HE := Aside0.mk hE1
          have HF := Aside0.mk hfit
          have hqn : q.toNat = p := by have := HQ.out; omega
          have HQN := Aside0.mk hqn
          clear hqn
          have hdc := fun wz hT => Tryz.utf8_DecodeRuneInString (s.extract p s.size) wz hT
          rw [hdec] at hdc
          have p8 : (q ≤ (s.size : Int)) = True := eq_true (by have := HP.out; have := HQ.out; omega)
          clear hE1 hfit h32 Bw Bz
          obtain ⟨i0, hi, hz0, hz1, hz2⟩ := info_parts Tryz.Builder_Extra_169.infoByte
          have hcases : (((cc : Int) == 65533) = true ∧ ((nn : Int) == 1) = false) ∨ ((cc : Int) == 65533) = false := by
            by_cases hcc : cc = 65533
            · exact .inl ⟨by rw [hcc]; rfl, beq_eq_false_iff_ne.2 (by omega)⟩
            · exact .inr (beq_eq_false_iff_ne.2 (by omega))
          obtain ⟨q2, hq2⟩ : ∃ q2 : Int, ((p + nn : Nat) : Int) = q2 := ⟨_, rfl⟩
          have hw3 : wrap64 (q + (nn : Int)) = q2 := by
            have := HQ.out; have := HF.out; have := HS.out
            rw [bW (by omega) (by omega)]; omega
          have v1 : (q ≤ q2) = True := eq_true (by have := HQ.out; omega)
          have v2 : (q2 ≤ (s.size : Int)) = True := eq_true (by have := HF.out; omega)
          have BD : q2.toNat = p + nn := by omega
          have BI := Aside0.mk hq2
          have BF := Aside0.mk BD
          clear hq2 BD
          have LM := Aside0.mk (show out.size + (s.extract p (p + nn)).size ≤ maxLen by unfold maxLen; rw [ByteArray.size_extract]; have := HF.out; have := HS.out; omega)
          have LB := Aside0.mk (show out.size + (s.extract p (p + nn)).size ≤ 140737488355328 by rw [ByteArray.size_extract]; have := HF.out; have := HS.out; omega)
          clear hbad
          rcases hcases with ⟨hc1, hn1⟩ | hc1
          all_goals
            go_wp2_with (first | (go_at_call 117; rw [HQN.out]; refine (hdc _ (GW.below HG.out HB.out).2).mono ?_; rintro e w2 ⟨rfl, hb2⟩))
            have HR2 := Aside0.mk (HRq.out.below hb2)
            have HB2 := Aside0.mk (HB.out.trans (hb2.mono HB.out.size))
            have g1 := HR2.out.c1
            have g2 := HR2.out.c2
            clear hb2 h0 h1 h2 f0 f1 f2
            refine gZ (n := 21) (S := fun w' => w'.cell? ⟨w.heap.size, 1, none⟩ = some (.int .i64 q) ∧ w'.cell? ⟨w.heap.size, 2, none⟩ = some (.slice A out.size c)) (ds := [20]) #[false, false, false, false, false, false, false, false, false, false, false, false, false, false, false, false, false, false, false, false, false] (by kernel_rfl) rfl rfl ⟨g1, g2⟩ (fun hHeld => ?_); refine eY dI.wH dI.r9 (fun HT_ HW_ => ?_)
            obtain ⟨wz, hwz⟩ : ∃ wz, w2.drew = wz := ⟨_, rfl⟩
            have HRz : Aside0 (Rdr w.heap.size w.heap.size s q out (.slice A out.size c) wz) := ⟨by rw [← hwz]; exact HR2.out⟩
            have HBz : Aside0 (Below w.heap.size w wz) := ⟨by rw [← hwz]; exact bL HB2.out⟩
            have LH : Aside0 (w.heap.size ≤ wz.heap.size) := ⟨HBz.out.size⟩
            rw [hwz] at hHeld ⊢
            clear hwz g1 g2 HR2 HB2
            refine jf (i := 0) (N := some 49) (v := ?_) (a' := ?_) #[true, false, false, false, false, false, false, false, false, false, false, false, false, false, false, false, false, false, false, false, false] rfl rfl (iC HT_.out (by kernel_rfl)) (fun _ _ _ h => h) (Or.inl ⟨by rfl, ?_⟩) ?_ ?_
            rotate_left
            · intro w'
              go_simp
              with_reducible rfl
            rotate_left
            · simp only [Act.put, List.setIfInBounds_toArray, List.set_cons_zero, List.set_cons_succ, bO, bR]
              rfl
            refine jf (i := 1) (N := some 50) (v := ?_) (a' := ?_) #[true, true, false, false, false, false, false, false, false, false, false, false, false, false, false, false, false, false, false, false, false] rfl rfl (iC HT_.out (by kernel_rfl)) (fun _ _ _ h => h) (Or.inl ⟨by rfl, ?_⟩) ?_ ?_
            rotate_left
            · intro w'
              go_simp
              with_reducible rfl
            rotate_left
            · simp only [Act.put, List.setIfInBounds_toArray, List.set_cons_zero, List.set_cons_succ, bO, bR]
              rfl
            refine jf (i := 2) (N := some 51) (v := ?_) (a' := ?_) #[true, true, true, false, false, false, false, false, false, false, false, false, false, false, false, false, false, false, false, false, false] rfl rfl (iC HT_.out (by kernel_rfl)) (fun _ _ _ h => h) (Or.inl ⟨by rfl, ?_⟩) ?_ ?_
            rotate_left
            · intro w'
              go_simp
              with_reducible rfl
            rotate_left
            · simp only [Act.put, List.setIfInBounds_toArray, List.set_cons_zero, List.set_cons_succ, bO, bR]
              rfl
            refine jf (i := 3) (N := some 52) (v := ?_) (a' := ?_) #[true, true, true, true, false, false, false, false, false, false, false, false, false, false, false, false, false, false, false, false, false] rfl rfl (iC HT_.out (by kernel_rfl)) (fun _ _ _ h => h) (Or.inl ⟨by rfl, ?_⟩) ?_ ?_
            rotate_left
            · intro w'
              go_simp
              with_reducible rfl
            rotate_left
            · simp only [Act.put, List.setIfInBounds_toArray, List.set_cons_zero, List.set_cons_succ, bO, bR]
              rfl
            refine gy (i := 4) (N := some 53) (v := ?_) (a' := ?_) #[true, true, true, true, true, false, false, false, false, false, false, false, false, false, false, false, false, false, false, false, false] rfl rfl (dR HT_.out HW_.out (by kernel_rfl)) (fun _ _ _ h => h) (Or.inl ⟨by rfl, ?_⟩) hHeld ?_ ?_
            rotate_left
            · rintro w' ⟨s0, s1⟩
              go_simp
              with_reducible rfl
            rotate_left
            · simp only [Act.put, List.setIfInBounds_toArray, List.set_cons_zero, List.set_cons_succ, bO, bR]
              rfl
            refine jf (i := 5) (N := some 54) (v := ?_) (a' := ?_) #[true, true, true, true, true, true, false, false, false, false, false, false, false, false, false, false, false, false, false, false, false] rfl rfl (iC HT_.out (by kernel_rfl)) (fun _ _ _ h => h) (Or.inl ⟨by rfl, ?_⟩) ?_ ?_
            rotate_left
            · intro w'
              go_simp
              with_reducible rfl
            rotate_left
            · simp only [Act.put, List.setIfInBounds_toArray, List.set_cons_zero, List.set_cons_succ, bO, bR]
              rfl
            refine jf (i := 6) (N := some 55) (v := ?_) (a' := ?_) #[true, true, true, true, true, true, true, false, false, false, false, false, false, false, false, false, false, false, false, false, false] rfl rfl (iC HT_.out (by kernel_rfl)) (fun _ _ _ h => h) (Or.inl ⟨by rfl, ?_⟩) ?_ ?_
            rotate_left
            · intro w'
              go_simp
              with_reducible rfl
            rotate_left
            · simp only [Act.put, List.setIfInBounds_toArray, List.set_cons_zero, List.set_cons_succ, bO, bR]
              rfl
            refine jf (i := 7) (N := some 56) (v := ?_) (a' := ?_) #[true, true, true, true, true, true, true, true, false, false, false, false, false, false, false, false, false, false, false, false, false] rfl rfl (iC HT_.out (by kernel_rfl)) (fun _ _ _ h => h) (Or.inl ⟨by rfl, ?_⟩) ?_ ?_
            rotate_left
            · intro w'
              go_simp
              with_reducible rfl
            rotate_left
            · simp only [Act.put, List.setIfInBounds_toArray, List.set_cons_zero, List.set_cons_succ, bO, bR]
              rfl
            refine jf (i := 8) (N := some 57) (v := ?_) (a' := ?_) #[true, true, true, true, true, true, true, true, true, false, false, false, false, false, false, false, false, false, false, false, false] rfl rfl (iC HT_.out (by kernel_rfl)) (fun _ _ _ h => h) (Or.inl ⟨by rfl, ?_⟩) ?_ ?_
            rotate_left
            · intro w'
              go_simp
              with_reducible rfl
            rotate_left
            · simp only [Act.put, List.setIfInBounds_toArray, List.set_cons_zero, List.set_cons_succ, bO, bR]
              rfl
            refine gy (i := 9) (N := some 58) (v := ?_) (a' := ?_) #[true, true, true, true, true, true, true, true, true, true, false, false, false, false, false, false, false, false, false, false, false] rfl rfl (dR HT_.out HW_.out (by kernel_rfl)) (fun _ _ _ h => h) (Or.inl ⟨by rfl, ?_⟩) hHeld ?_ ?_
            rotate_left
            · rintro w' ⟨s0, s1⟩
              go_simp
              with_reducible rfl
            rotate_left
            · simp only [Act.put, List.setIfInBounds_toArray, List.set_cons_zero, List.set_cons_succ, bO, bR]
              rfl
            refine jf (i := 10) (N := some 59) (v := ?_) (a' := ?_) #[true, true, true, true, true, true, true, true, true, true, true, false, false, false, false, false, false, false, false, false, false] rfl rfl (iC HT_.out (by kernel_rfl)) (fun _ _ _ h => h) (Or.inl ⟨by rfl, ?_⟩) ?_ ?_
            rotate_left
            · intro w'
              go_simp
              with_reducible rfl
            rotate_left
            · simp only [Act.put, List.setIfInBounds_toArray, List.set_cons_zero, List.set_cons_succ, bO, bR]
              rfl
            refine jf (i := 11) (N := some 60) (v := ?_) (a' := ?_) #[true, true, true, true, true, true, true, true, true, true, true, true, false, false, false, false, false, false, false, false, false] rfl rfl (iC HT_.out (by kernel_rfl)) (fun _ _ _ h => h) (Or.inl ⟨by rfl, ?_⟩) ?_ ?_
            rotate_left
            · intro w'
              go_simp
              with_reducible rfl
            rotate_left
            · simp only [Act.put, List.setIfInBounds_toArray, List.set_cons_zero, List.set_cons_succ, bO, bR]
              rfl
            refine jf (i := 12) (N := some 61) (v := ?_) (a' := ?_) #[true, true, true, true, true, true, true, true, true, true, true, true, true, false, false, false, false, false, false, false, false] rfl rfl (iC HT_.out (by kernel_rfl)) (fun _ _ _ h => h) (Or.inl ⟨by rfl, ?_⟩) ?_ ?_
            rotate_left
            · intro w'
              go_simp
              with_reducible rfl
            rotate_left
            · simp only [Act.put, List.setIfInBounds_toArray, List.set_cons_zero, List.set_cons_succ, bO, bR]
              rfl
            refine gy (i := 13) (N := some 62) (v := ?_) (a' := ?_) #[true, true, true, true, true, true, true, true, true, true, true, true, true, true, false, false, false, false, false, false, false] rfl rfl (dR HT_.out HW_.out (by kernel_rfl)) (fun _ _ _ h => h) (Or.inl ⟨by rfl, ?_⟩) hHeld ?_ ?_
            rotate_left
            · rintro w' ⟨s0, s1⟩
              go_simp
              with_reducible rfl
            rotate_left
            · simp only [Act.put, List.setIfInBounds_toArray, List.set_cons_zero, List.set_cons_succ, bO, bR]
              rfl
            refine jf (i := 14) (N := some 63) (v := ?_) (a' := ?_) #[true, true, true, true, true, true, true, true, true, true, true, true, true, true, true, false, false, false, false, false, false] rfl rfl (iC HT_.out (by kernel_rfl)) (fun _ _ _ h => h) (Or.inl ⟨by rfl, ?_⟩) ?_ ?_
            rotate_left
            · intro w'
              go_simp
              with_reducible rfl
            rotate_left
            · simp only [Act.put, List.setIfInBounds_toArray, List.set_cons_zero, List.set_cons_succ, bO, bR]
              rfl
            refine jf (i := 15) (N := some 64) (v := ?_) (a' := ?_) #[true, true, true, true, true, true, true, true, true, true, true, true, true, true, true, true, false, false, false, false, false] rfl rfl (iC HT_.out (by kernel_rfl)) (fun _ _ _ h => h) (Or.inl ⟨by rfl, ?_⟩) ?_ ?_
            rotate_left
            · intro w'
              go_simp
              with_reducible rfl
            rotate_left
            · simp only [Act.put, List.setIfInBounds_toArray, List.set_cons_zero, List.set_cons_succ, bO, bR]
              rfl
            refine jf (i := 16) (N := some 65) (v := ?_) (a' := ?_) #[true, true, true, true, true, true, true, true, true, true, true, true, true, true, true, true, true, false, false, false, false] rfl rfl (iC HT_.out (by kernel_rfl)) (fun _ _ _ h => h) (Or.inl ⟨by rfl, ?_⟩) ?_ ?_
            rotate_left
            · intro w'
              go_simp
              with_reducible rfl
            rotate_left
            · simp only [Act.put, List.setIfInBounds_toArray, List.set_cons_zero, List.set_cons_succ, bO, bR]
              rfl
            refine fU (i := 17) (N := some 66) #[true, true, true, true, true, true, true, true, true, true, true, true, true, true, true, true, true, true, false, false, false] rfl rfl (cO HT_.out (by kernel_rfl)) (by decide) (fun K hK => ?_)
            obtain ⟨v', wa, hrun, hown, hgrow, _⟩ := Lib.run_append_own_stringF (P := Tryz.prog) _ w.heap.size 138 9 138 5 i0 Tryz.underlying138 Tryz.underlying9 hi hz0 hz1 hz2 _ out.size (Lib.strCells out) HRz.out.2.1 (s.extract p (p + nn)) LM.out LB.out LH.out
            refine yT (v := v') (w1 := wa) (by rfl) rfl ?_ ?_
            · refine Eq.trans (b := ((Builtin.append_ #[138, 9] 138 #[.slice A out.size c, .string (s.extract q.toNat q2.toNat)]).run Tryz.prog wz).andThen (fun a w' => Result.ok (Next.value a) w')) ?hex ?_
              case hex =>
                first
                  | rfl
                  | (unfold execOp; simp only [resolve, invoke, builtin, Sem.run_bind, Sem.run_pure, Result.andThen_ok, List.map_toArray, List.map_cons, List.map_nil]; rfl)
                  | (go_simp; done)
                  | (go_simp; rfl)
              rw [HQN.out, BF.out, hrun]
              rfl
            obtain ⟨ao, n', cap, rfl⟩ : ∃ ao n' cap, v' = .slice ao n' cap := by
              rcases hown.2 with ⟨hv, _⟩ | ⟨g, cap, cur, fz, hv, _⟩
              · exact ⟨_, _, _, hv⟩
              · exact ⟨_, _, _, hv⟩
            have hne : some w.heap.size ≠ (Value.slice A out.size c).ownBlock := fun e => oK HRz.out.2.1 HRz.out.1 (by decide) e.symm
            have hga : wa.heap[w.heap.size]? = some (.cells #[.string s, .int .i64 q, .slice A out.size c] 187 (0, 0)) := by
              rw [hgrow.block w.heap.size HRz.out.lt hne]
              exact HRz.out.1
            have HGA := Aside0.mk hga
            rw [lM, ← ByteArray.size_append] at hown
            have HOW := Aside0.mk hown
            have HBa := Aside0.mk (HBz.out.grown hgrow LH.out (fun k hk => (qD HRz.out.2.1 k hk).1))
            refine hK.out _ _ ⟨(ah hga 1).trans rfl, (ah hga 2).trans rfl⟩ (fun hHeld => ?_)
            clear hK K hrun hown hgrow hne hga
            refine dX (a' := ?_) ?_ ?_
            rotate_left
            · show Act.put _ (some 66) _ = _
              simp only [Act.put, List.setIfInBounds_toArray, List.set_cons_zero, List.set_cons_succ, bO, bR]
              rfl
            refine jf (i := 18) (N := some 67) (v := ?_) (a' := ?_) #[true, true, true, true, true, true, true, true, true, true, true, true, true, true, true, true, true, true, true, false, false] rfl rfl (iC HT_.out (by kernel_rfl)) (fun _ _ _ h => h) (Or.inl ⟨by rfl, ?_⟩) ?_ ?_
            rotate_left
            · intro w'
              go_simp
              with_reducible rfl
            rotate_left
            · simp only [Act.put, List.setIfInBounds_toArray, List.set_cons_zero, List.set_cons_succ, bO, bR]
              rfl
            refine jf (i := 19) (N := some 68) (v := ?_) (a' := ?_) #[true, true, true, true, true, true, true, true, true, true, true, true, true, true, true, true, true, true, true, true, false] rfl rfl (iC HT_.out (by kernel_rfl)) (fun _ _ _ h => h) (Or.inl ⟨by rfl, ?_⟩) ?_ ?_
            rotate_left
            · intro w'
              go_simp
              with_reducible rfl
            rotate_left
            · simp only [Act.put, List.setIfInBounds_toArray, List.set_cons_zero, List.set_cons_succ, bO, bR]
              rfl
            refine kJ (i := 20) (N := none) #[true, true, true, true, true, true, true, true, true, true, true, true, true, true, true, true, true, true, true, true, true] rfl rfl (cO HT_.out (by kernel_rfl)) (by decide) (fun K hK => ?_)
            have z2 : wa.cell? ⟨w.heap.size, 2, none⟩ = some (.slice A out.size c) := (ah HGA.out 2).trans rfl
            have zf := av HGA.out 2
            refine jZ (w1 := wa.setCell ⟨w.heap.size, 2, none⟩ (.slice ao n' cap)) (by rfl) rfl (by go_simp; first | done | rfl) ?_
            have HRb := Aside0.mk (Rdr.set2 HGA.out HOW.out (Nat.le_refl _))
            refine hK.out _ _ ?_
            clear hK K
            refine iZ (gD HT_.out (by kernel_rfl)) ?_
            have g1 := HRb.out.c1
            have k1f := HRb.out.fz 1
            go_wp2
            go_roundg k1
            case measure => exact Nat.lt_succ_self k1
            case rel => exact ⟨p + nn, out ++ s.extract p (p + nn), _, HE, ⟨by rw [BI.out]; exact HRb.out.set1 _⟩, ⟨fP (fP HBa.out (Nat.le_refl _) _ _) (Nat.le_refl _) _ _⟩⟩
end Go.Proofs.YtpncpefppifgdaaGreatDoor.GUt
