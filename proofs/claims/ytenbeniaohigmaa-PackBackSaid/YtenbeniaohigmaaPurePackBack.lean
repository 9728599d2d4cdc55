/- PackBack, the pure statement: what is put is taken as it was, whatever is behind; for every input. -/
import Derived.Test.YtenbeniaohigmaaTakeMath
namespace Go.Proofs.Ytenbeniaohigmaa.Pure
open Go.RowKit Go.Proofs.Ytenbeniaohigmaa.GPack Go.Proofs.YtenbeniaohigmaaW.PrintWords Go.Proofs.YtenbeniaohigmaaW.PrintLast Go.Proofs.YtenbeniaohigmaaW.PrintMore

theorem take_put1 (v : Int) (s : ByteArray) : takeS (strOfNums (beL 1 v) ++ s) 0 1 = (v % 256, s, 0) := by have h := take_put 1 v s (by simp); simpa using h
theorem take_put2 (v : Int) (s : ByteArray) : takeS (strOfNums (beL 2 v) ++ s) 0 2 = (v % 65536, s, 0) := by have h := take_put 2 v s (by simp); simpa using h
theorem take_put4 (v : Int) (s : ByteArray) : takeS (strOfNums (beL 4 v) ++ s) 0 4 = (v % 4294967296, s, 0) := by have h := take_put 4 v s (by simp); simpa using h
theorem take_put8 (v : Int) (s : ByteArray) : takeS (strOfNums (beL 8 v) ++ s) 0 8 = (v % 18446744073709551616, s, 0) := by have h := take_put 8 v s (by simp); simpa using h
theorem take_int (v : Int) (s : ByteArray) (h0 : -9223372036854775808 ≤ v) (h1 : v < 9223372036854775808) :
    pack_Taker_Int.f 20 (strOfNums (beL 8 (IntKind.u64.wrap v)) ++ s) 0 = some (v, s, 0) := by
  unfold pack_Taker_Int.f
  rw [take_is, take_put8]
  simp only [Option.bind_some, Option.some.injEq, Prod.mk.injEq, and_true]
  simp [IntKind.wrap, IntKind.bits, IntKind.signed, wrap64]
  omega
theorem take_flag (b : Bool) (s : ByteArray) : ∃ x, pack_Flag.f b = some x ∧ x.size = 1 ∧ pack_Taker_Flag.f 20 (x ++ s) 0 = some (b, s, 0) := by
  have h : ∀ n : Int, 0 ≤ n → n ≤ 1 → pack_Taker_Flag.f 20 (strOfNums [n] ++ s) 0 = some (n == 1, s, 0) := by
    intro n h0 h1
    unfold pack_Taker_Flag.f
    rw [take_is, show strOfNums [n] = strOfNums (beL 1 n) from by simp [beL]; rw [show n % 256 = n from by omega], take_put1]
    simp only [Option.bind_some]
    rw [if_neg (by omega), show n % 256 = n from by omega]
  cases b
  · exact ⟨strOfNums [0], rfl, rfl, h 0 (by omega) (by omega)⟩
  · exact ⟨strOfNums [1], rfl, rfl, h 1 (by omega) (by omega)⟩
theorem text_core (x s0 t s : ByteArray) (m : Int) (h2 : takeS x 0 2 = (m, s0, 0)) (e1 : wrap64 m = m) (e2 : ¬ m > 4096) (hb : pack_Taker_bytes.f s0 0 m = some (t, true, s, 0)) : pack_Taker_Text.f 20 x 0 = some (t, s, 0) := by
  unfold pack_Taker_Text.f
  rw [take_is, h2]
  simp only [Option.bind_some]
  rw [e1, if_neg e2, hb]
  rfl
theorem take_text (t s : ByteArray) (ht : t.size ≤ 4096) : pack_Taker_Text.f 20 (strOfNums (beL 2 t.size) ++ t ++ s) 0 = some (t, s, 0) := by
  have e0 : (t.size : Int) % 65536 = t.size := by omega
  have e1 : wrap64 (t.size : Int) = t.size := i64_id (by omega) (by omega)
  have e2 : ¬ ((t.size : Int) > 4096) := by omega
  have e3 : ¬ ((t.size : Int) > ((t ++ s).size : Int)) := by rw [ByteArray.size_append]; omega
  have e4 : (t.size : Int) ≤ ((t ++ s).size : Int) := by rw [ByteArray.size_append]; omega
  have e5 : (t ++ s).extract 0 t.size = t := ByteArray.extract_append_eq_left rfl
  have e6 : (t ++ s).extract t.size (t ++ s).size = s := ByteArray.extract_append_eq_right rfl (by rw [ByteArray.size_append])
  have hb : pack_Taker_bytes.f (t ++ s) 0 t.size = some (t, true, s, 0) := by
    unfold pack_Taker_bytes.f
    rw [if_pos rfl, if_neg e3, if_pos (Int.natCast_nonneg _), if_pos e4, Int.toNat_natCast, e5, e6]
  have ht2 : takeS (strOfNums (beL 2 t.size) ++ (t ++ s)) 0 2 = ((t.size : Int), t ++ s, 0) := by rw [take_put2, e0]
  rw [ByteArray.append_assoc]
  exact text_core _ _ t s t.size ht2 e1 e2 hb
theorem i64_wf {v : Int} (h : (Lit.int .i64 v).wf = true) : -9223372036854775808 ≤ v ∧ v < 9223372036854775808 := by
  simp [Lit.wf, IntKind.min, IntKind.max, IntKind.bits, IntKind.signed] at h
  omega

theorem PackBack : bosunlaw02_PackBack.Pure := by
  intro v w b s z hv hw hs hz
  obtain ⟨h0, h1⟩ := u64_wf hv
  obtain ⟨g0, g1⟩ := i64_wf hw
  refine ⟨21, ?_⟩
  unfold bosunlaw02_PackBack.f
  have aw : bosunlaw02_Awake.f 20 = some true := awake 10
  have long : ∀ q, q = true → bosunlaw02_PackBack.j0 21 v w b s z q = some true := by
    intro q hq
    rw [bosunlaw02_PackBack.j0, if_pos hq, aw]
    rfl
  by_cases hl : (s.size : Int) > 4096
  · rw [if_pos hl]; exact long _ rfl
  rw [if_neg hl]
  by_cases hm : (z.size : Int) > 100
  · exact long _ (decide_eq_true hm)
  rw [decide_eq_false hm, bosunlaw02_PackBack.j0, if_neg (by decide)]
  obtain ⟨x, fx, fs, ft⟩ := take_flag b (strOfNums (beL 2 s.size) ++ s ++ z)
  have p4 : pack_Put.f 20 4 v = some (strOfNums (beL 4 v)) := put4 15 v
  have p8 : pack_Put.f 20 8 v = some (strOfNums (beL 8 v)) := put8 11 v
  have pi : pack_Int.f 20 w = some (strOfNums (beL 8 (IntKind.u64.wrap w))) := by
    unfold pack_Int.f
    rw [show (20 : Nat) = 11 + 9 from rfl, put8]
    rfl
  have n8 : ∀ v, (strOfNums (beL 8 v)).size = 8 := fun v => by rw [strOfNums_size, beL_len]
  have n4 : ∀ v, (strOfNums (beL 4 v)).size = 4 := fun v => by rw [strOfNums_size, beL_len]
  have n2 : ∀ v, (strOfNums (beL 2 v)).size = 2 := fun v => by rw [strOfNums_size, beL_len]
  rw [text 10 s (by omega), p8, p4, pi, fx]
  simp only [Option.bind_some, ByteArray.size_append, n8, n4, n2, fs]
  rw [if_pos (by omega), if_pos (by omega), if_pos (by omega), if_pos (by omega), if_pos (by omega)]
  have e : strOfNums (beL 8 v) ++ strOfNums (beL 4 v) ++ strOfNums (beL 8 (IntKind.u64.wrap w)) ++ x ++ (strOfNums (beL 2 s.size) ++ s) ++ z = strOfNums (beL 8 v) ++ (strOfNums (beL 4 v) ++ (strOfNums (beL 8 (IntKind.u64.wrap w)) ++ (x ++ (strOfNums (beL 2 s.size) ++ s ++ z)))) := by
    simp only [ByteArray.append_assoc]
  rw [e, take_is, take_put8]
  simp only [Option.bind_some]
  rw [if_pos (by omega), take_is, take_put4]
  simp only [Option.bind_some]
  rw [if_pos (Int.tmod_eq_emod_of_nonneg h0).symm, take_int w _ g0 g1]
  simp only [Option.bind_some, if_true]
  rw [ft]
  simp only [Option.bind_some, beq_self_eq_true, if_true]
  rw [take_text s z (by omega), aw]
  simp only [Option.bind_some, if_true]
  unfold pack_Taker_End.f
  rw [if_pos rfl]
  by_cases hzz : z.toList = []
  · rw [if_pos hzz]; simp [hzz]
  · rw [if_neg hzz]; simp [hzz]
end Go.Proofs.Ytenbeniaohigmaa.Pure
