/- The bytes that ckone writes and takes again. Plain lemmas. No conditions beside those stated. -/
import Derived.Test.YtpmbdcljphpcnaaDoorCkPut
import Derived.Test.YtpmbdcljphpcnaaDoorCkTake
namespace Go.Proofs.YtpmbdcljphpcnaaDoor.Pure
open Go.RowKit Go.Proofs.YtpmbdcljphpcnaaDoor.GCk Go.Proofs.YtpmbdcljphpcnaaDoorW.PrintWords Go.Proofs.YtpmbdcljphpcnaaDoorW.PrintLast Go.Proofs.YtpmbdcljphpcnaaDoorW.PrintMore

theorem beL_bd (n : Nat) : ∀ v : Int, ∀ b ∈ beL n v, 0 ≤ b ∧ b < 256 := by
  induction n with
  | zero => intro v b hb; simp [beL] at hb
  | succ n ih =>
    intro v b hb
    simp only [beL, List.mem_append, List.mem_singleton] at hb
    rcases hb with hb | rfl
    · exact ih _ b hb
    · omega
theorem valL_app (xs ys : List Int) (v : Int) : valL (xs ++ ys) v = valL ys (valL xs v) := by simp [valL]
theorem val_beL (n : Nat) : ∀ v a : Int, valL (beL n v) a = a * 256 ^ n + v % 256 ^ n := by
  induction n with
  | zero => intro v a; simp [beL, valL, Int.emod_one]
  | succ n ih =>
    intro v a
    rw [beL, valL_app, ih]
    have h : v % 256 ^ (n + 1) = (v / 256) % 256 ^ n * 256 + v % 256 := by
      rw [Int.pow_succ, Int.mul_comm (256 ^ n) 256, Int.emod_def v (256 * 256 ^ n), Int.emod_def (v / 256), ← Int.ediv_ediv_of_nonneg (show (0 : Int) ≤ 256 by omega), Int.mul_assoc]
      generalize (256 : Int) ^ n * (v / 256 / 256 ^ n) = p
      omega
    rw [h]
    simp only [valL, List.foldl_cons, List.foldl_nil, Int.pow_succ]
    rw [Int.add_mul, Int.mul_assoc]
    omega
theorem beL_val (xs : List Int) (h : ∀ b ∈ xs, 0 ≤ b ∧ b < 256) : beL xs.length (valL xs 0) = xs := by
  generalize hn : xs.length = n
  induction n generalizing xs with
  | zero => rw [List.length_eq_zero_iff.1 hn]; rfl
  | succ n ih =>
    have hne : xs ≠ [] := fun e => by rw [e] at hn; cases hn
    obtain ⟨ys, b, rfl⟩ : ∃ ys b, xs = ys ++ [b] := ⟨xs.dropLast, xs.getLast hne, (List.dropLast_concat_getLast hne).symm⟩
    have hb := h b (by simp)
    rw [List.length_append, List.length_singleton] at hn
    have e : valL (ys ++ [b]) 0 = valL ys 0 * 256 + b := by rw [valL_app]; rfl
    rw [beL, e, show (valL ys 0 * 256 + b) / 256 = valL ys 0 by omega, show (valL ys 0 * 256 + b) % 256 = b by omega, ih ys (fun c hc => h c (by simp [hc])) (by omega)]
theorem bytes_nums (xs : List Int) (hb : ∀ b ∈ xs, 0 ≤ b ∧ b < 256) : bytesOf (strOfNums xs) = xs := by
  simp only [bytesOf, strOfNums, List.map_map]
  apply List.ext_getElem (by simp)
  intro i h1 h2
  obtain ⟨g0, g1⟩ := hb _ (List.getElem_mem h2)
  simp [Function.comp_def]
  omega
theorem take_put (n : Nat) (v : Int) (s : ByteArray) (hn : n = 1 ∨ n = 2 ∨ n = 4 ∨ n = 8) : takeS (strOfNums (beL n v) ++ s) 0 n = (v % 256 ^ n, s, 0) := by
  have hl := beL_len n v
  unfold takeS
  have hz : (strOfNums (beL n v)).size = n := by rw [strNums_size, hl]
  rw [if_pos rfl, if_pos (by omega), if_neg (by rw [ByteArray.size_append]; omega)]
  have e1 : (strOfNums (beL n v) ++ s).extract 0 n = strOfNums (beL n v) := ByteArray.extract_append_eq_left hz.symm
  have e2 : (strOfNums (beL n v) ++ s).extract n (strOfNums (beL n v) ++ s).size = s := ByteArray.extract_append_eq_right hz.symm (by rw [ByteArray.size_append])
  rw [Int.toNat_natCast, e1, e2, bytes_nums _ (beL_bd n v), val_beL]
  simp
theorem cut_join (s : ByteArray) (n : Nat) (h : n ≤ s.size) : s.extract 0 n ++ s.extract n s.size = s := by
  rw [ByteArray.extract_append_extract]
  · rw [show min 0 n = 0 by omega, show max n s.size = s.size by omega]
    exact ByteArray.extract_zero_size
/-- What was taken stood ahead. -/
theorem take_inv (n : Nat) (hn : n = 1 ∨ n = 2 ∨ n = 4 ∨ n = 8) (s : ByteArray) (e v : Int) (s' : ByteArray) (h : takeS s e n = (v, s', 0)) : e = 0 ∧ s = strOfNums (beL n v) ++ s' ∧ 0 ≤ v ∧ v < ((256 ^ n : Nat) : Int) := by
  unfold takeS at h
  by_cases he : e = 0
  · rw [if_pos he, if_pos (by omega)] at h
    by_cases hl : (s.size : Int) < n
    · rw [if_pos hl] at h
      injection h with _ h; injection h with _ h; cases h
    · rw [if_neg hl, Int.toNat_natCast] at h
      injection h with h1 h; injection h with h2 _
      subst h1 h2
      have hsz : (s.extract 0 n).size = n := by rw [ByteArray.size_extract]; omega
      have hbd := valL_bd (bytesOf (s.extract 0 n)) 0 (by omega) (bytes_bd _)
      have hv := beL_val (bytesOf (s.extract 0 n)) (bytes_bd _)
      rw [bytes_len, hsz] at hbd hv
      refine ⟨he, ?_, hbd.1, by have := hbd.2; omega⟩
      rw [hv, bytes_strOfNums, cut_join s n (by omega)]
  · rw [if_neg he] at h
    injection h with _ h; injection h with _ h
    exact absurd h he
theorem text_out (x s0 t s : ByteArray) (m : Int) (h2 : takeS x 0 2 = (m, s0, 0)) (e1 : wrap64 m = m) (e2 : ¬ m > 4096) (hb : pack_Taker_bytes.f s0 0 m = some (t, true, s, 0)) : pack_Taker_Text.f 20 x 0 = some (t, s, 0) := by
  unfold pack_Taker_Text.f
  rw [take_is, h2]
  simp only [Option.bind_some]
  rw [e1, if_neg e2, hb]
  rfl
theorem take_text (t s : ByteArray) (ht : t.size ≤ 4096) : pack_Taker_Text.f 20 (txt t ++ s) 0 = some (t, s, 0) := by
  have e0 : (t.size : Int) % 65536 = t.size := by omega
  have e1 : wrap64 (t.size : Int) = t.size := i64_id (by omega) (by omega)
  have e2 : ¬ ((t.size : Int) > 4096) := by omega
  have e3 : ¬ ((t.size : Int) > ((t ++ s).size : Int)) := by rw [ByteArray.size_append]; omega
  have e4 : (t.size : Int) ≤ ((t ++ s).size : Int) := by rw [ByteArray.size_append]; omega
  have e5 : (t ++ s).extract 0 t.size = t := ByteArray.extract_append_eq_left rfl
  have e6 : (t ++ s).extract t.size (t ++ s).size = s := ByteArray.extract_append_eq_right rfl (by rw [ByteArray.size_append])
  have hb : pack_Taker_bytes.f (t ++ s) 0 t.size = some (t, true, s, 0) := by
    unfold pack_Taker_bytes.f
    rw [if_pos rfl, if_neg e3, if_pos (Int.natCast_nonneg _), if_pos e4, Int.toNat_natCast, e5, e6]
  have ht2 : takeS (strOfNums (beL 2 t.size) ++ (t ++ s)) 0 2 = ((t.size : Int), t ++ s, 0) := by
    have h := take_put 2 t.size (t ++ s) (by simp)
    rw [show ((256 : Int) ^ 2) = 65536 from rfl, e0] at h
    exact h
  unfold txt
  rw [ByteArray.append_assoc]
  exact text_out _ _ t s t.size ht2 e1 e2 hb
/-- A text that was taken stood ahead. -/
theorem text_inv (s : ByteArray) (e : Int) (t s' : ByteArray) (h : pack_Taker_Text.f 20 s e = some (t, s', 0)) : e = 0 ∧ s = txt t ++ s' ∧ t.size ≤ 4096 := by
  rw [pack_Taker_Text.f, take_is, Option.bind_some] at h
  obtain ⟨v, s1, e1, ht, v0, v1, _, hz⟩ := take_cases s e 2 (.inr rfl)
  rw [ht] at h
  have wv : wrap64 v = v := i64_id (by omega) (by omega)
  simp only [wv] at h
  by_cases hv : v > 4096
  · rw [if_pos hv] at h
    have hb : pack_Taker_back.f s1 e1 s 2 = some (s, 2) := rfl
    rw [hb, Option.bind_some] at h
    simp only [pack_Taker_bytes.f] at h
    rw [if_neg (by decide)] at h
    simp at h
  · rw [if_neg hv] at h
    obtain ⟨⟨t1, ok, s2, e2⟩, hb, h⟩ := Option.bind_eq_some_iff.1 h
    unfold pack_Taker_bytes.f at hb
    by_cases he : e1 = 0
    · subst he
      obtain ⟨h1, h2, h3, h4⟩ := take_inv 2 (by simp) s e v s1 ht
      rw [if_pos rfl] at hb
      by_cases hl : v > (s1.size : Int)
      · rw [if_pos hl] at hb
        injection hb with hb; injection hb with g1 hb; injection hb with g2 hb; injection hb with g3 g4
        subst g1 g2 g3 g4
        simp at h
      · rw [if_neg hl, if_pos v0, if_pos (by omega)] at hb
        injection hb with hb; injection hb with g1 hb; injection hb with g2 hb; injection hb with g3 g4
        subst g1 g2 g3 g4
        rw [if_pos rfl] at h
        injection h with h; injection h with q1 h; injection h with q2 q3
        subst q1 q2
        have hsz : (s1.extract 0 v.toNat).size = v.toNat := by rw [ByteArray.size_extract]; omega
        refine ⟨h1, ?_, by rw [hsz]; omega⟩
        show s = txt (s1.extract 0 v.toNat) ++ s1.extract v.toNat s1.size
        unfold txt
        rw [hsz, show ((v.toNat : Nat) : Int) = v by omega, ByteArray.append_assoc, cut_join s1 v.toNat (by omega)]
        exact h2
    · rw [if_neg he] at hb
      injection hb with hb; injection hb with g1 hb; injection hb with g2 hb; injection hb with g3 g4
      subst g1 g2 g3 g4
      simp at h
      exact absurd h.2.2 he
end Go.Proofs.YtpmbdcljphpcnaaDoor.Pure
