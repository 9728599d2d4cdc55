/- UtfQuotes, the pure statement: whether any text is valid UTF-8, and, if it is, how it is quoted, are the document's; for every input. -/
import Derived.Test.YtenbeniaohigmaaDoorUtQuote
import Derived.Test.YtenbeniaohigmaaDoorGUtUtfQuotesS
namespace Go.Proofs.YtenbeniaohigmaaDoor.Pure
open Go.RowKit Go.Proofs.YtenbeniaohigmaaDoor.GUt Go.Proofs.YtenbeniaohigmaaDoorW.PrintWords Go.Proofs.YtenbeniaohigmaaDoorW.PrintLast Go.Proofs.YtenbeniaohigmaaDoorW.PrintMore

theorem hex_fin : ∀ n : Fin 16, bosunref06_hex.f ((n.val : Nat) : Int) = some (bt digT ((n.val : Nat) : Int)) := by decide +kernel
theorem hex_is (n : Int) (h0 : 0 ≤ n) (h1 : n < 16) : bosunref06_hex.f n = some (bt digT n) := by
  obtain ⟨m, rfl⟩ := Int.eq_ofNat_of_zero_le h0
  exact hex_fin ⟨m, by omega⟩
theorem ref_round (k : Nat) (s : ByteArray) (acc : List Int) (i : Nat) (b : Int) (hs : s.size ≤ 1000000000) (hi : i < s.size) (ha : acc.length ≤ 10000000000) (hb : 0 ≤ b ∧ b ≤ 255) :
    bosunref06_Quote.j1 (k + 1) s acc (i : Int) b (decide (b = 34 ∨ b = 92)) = bosunref06_Quote.l0 k s (acc ++ quoteI b) ((i + 1 : Nat) : Int) := by
  have hw : wrap64 ((i : Int) + 1) = ((i + 1 : Nat) : Int) := by rw [i64_id (by omega) (by omega)]; omega
  have ha' : acc.length + 6 < 140737488355328 := by omega
  rw [bosunref06_Quote.j1]
  unfold quoteI shortI
  by_cases h1 : b = 34
  · rw [if_pos (decide_eq_true (.inl h1)), Option.bind_some, if_pos (by simp; omega), hw, if_pos h1, if_pos (by omega)]
  by_cases h2 : b = 92
  · rw [if_pos (decide_eq_true (.inr h2)), Option.bind_some, if_pos (by simp; omega), hw, if_neg h1, if_pos h2, if_pos (by omega)]
  rw [decide_eq_false (show ¬ (b = 34 ∨ b = 92) by omega), if_neg (show ¬ (false = true) by decide), if_neg h1, if_neg h2]
  by_cases h3 : b = 10
  · rw [if_pos h3, Option.bind_some, if_pos (by simp; omega), hw, if_pos h3, if_pos (by decide)]
  rw [if_neg h3, if_neg h3]
  by_cases h4 : b = 13
  · rw [if_pos h4, Option.bind_some, if_pos (by simp; omega), hw, if_pos h4, if_pos (by decide)]
  rw [if_neg h4, if_neg h4]
  by_cases h5 : b = 9
  · rw [if_pos h5, Option.bind_some, if_pos (by simp; omega), hw, if_pos h5, if_pos (by decide)]
  rw [if_neg h5, if_neg h5]
  by_cases h6 : b = 8
  · rw [if_pos h6, Option.bind_some, if_pos (by simp; omega), hw, if_pos h6, if_pos (by decide)]
  rw [if_neg h6, if_neg h6]
  by_cases h7 : b = 12
  · rw [if_pos h7, Option.bind_some, if_pos (by simp; omega), hw, if_pos h7, if_pos (by decide)]
  rw [if_neg h7, if_neg h7, if_neg (show ¬ ((0 : Int) ≠ 0) by decide)]
  by_cases h8 : b < 32
  · have e1 : wrap64 (Int.tdiv (wrap64 b) 16) = b / 16 := by
      rw [i64_id (x := b) (by omega) (by omega), Int.tdiv_eq_ediv_of_nonneg hb.1, i64_id (by omega) (by omega)]
    have e2 : Int.tmod (wrap64 b) 16 = b % 16 := by
      rw [i64_id (x := b) (by omega) (by omega), Int.tmod_eq_emod_of_nonneg hb.1]
    rw [if_pos h8, e1, e2, hex_is _ (by omega) (by omega), hex_is _ (by omega) (by omega), Option.bind_some, Option.bind_some, Option.bind_some, if_pos (by simp; omega), hw, if_pos h8]
  · rw [if_neg h8, if_neg h8]
    rw [if_pos (by omega), hw]
theorem ref_loop (s : ByteArray) (hs : s.size ≤ 100000000) : ∀ (n i k : Nat) (acc : List Int), i + n = s.size → acc.length ≤ 1 + 6 * i → 2 * n + 2 < k → bosunref06_Quote.l0 k s acc (i : Int) = some (strOfNums acc ++ quoteR s n i)
  | 0, i, k, acc, h, ha, hk => by
    obtain ⟨k, rfl⟩ : ∃ j, k = j + 1 := ⟨k - 1, by omega⟩
    rw [bosunref06_Quote.l0, if_neg (show ¬ (i : Int) < (s.size : Int) by omega), if_pos (by omega), quoteR, nums_add]
  | n + 1, i, k, acc, h, ha, hk => by
    obtain ⟨k, rfl⟩ : ∃ j, k = j + 2 := ⟨k - 2, by omega⟩
    have hr := bt_range s i
    have hq : (quoteI (bt s i)).length ≤ 6 := by
      unfold quoteI
      repeat' split
      all_goals simp
    have ih := ref_loop s hs n (i + 1) k (acc ++ quoteI (bt s i)) (by omega) (by rw [List.length_append]; omega) (by omega)
    have rr := ref_round k s acc i (bt s i) (by omega) (by omega) (by omega) hr
    rw [bosunref06_Quote.l0, if_pos (show (i : Int) < (s.size : Int) by omega), if_pos (show 0 ≤ (i : Int) by omega)]
    have e : (if bt s i = 34 then bosunref06_Quote.j1 (k + 1) s acc (i : Int) (bt s i) true else bosunref06_Quote.j1 (k + 1) s acc (i : Int) (bt s i) (bt s i == 92)) = bosunref06_Quote.j1 (k + 1) s acc (i : Int) (bt s i) (decide (bt s i = 34 ∨ bt s i = 92)) := by
      by_cases h1 : bt s i = 34
      · rw [if_pos h1, decide_eq_true (.inl h1)]
      · rw [if_neg h1]
        congr 1
        by_cases h2 : bt s i = 92
        · rw [decide_eq_true (.inr h2)]; exact beq_iff_eq.2 h2
        · rw [decide_eq_false (by omega)]; exact beq_eq_false_iff_ne.2 h2
    rw [e, rr, ih, quoteR, ← nums_add, ByteArray.append_assoc]
theorem ref_quote (s : ByteArray) (hs : s.size ≤ 100000000) (k : Nat) (hk : 2 * s.size + 2 < k) : bosunref06_Quote.f k s = some (strOfNums [34] ++ quoteR s s.size 0) :=
  ref_loop s hs s.size 0 k [34] (by omega) (by simp) hk
theorem UtfQuotes : bosunlaw06_UtfQuotes.Pure := by
  intro s hs
  refine ⟨100000, ?_⟩
  rw [bosunlaw06_UtfQuotes.f]
  by_cases h : (s.size : Int) > 6000
  · rw [if_pos h, awake06 _ (by omega)]
    rfl
  · rw [if_neg h, utf_is s (by omega) _ (by omega), Option.bind_some, awake06 _ (by omega), Option.bind_some, if_pos rfl, utf_Valid.f, valid_is s (by omega)]
    simp only [Option.bind_some]
    rw [if_pos (by rw [beq_self_eq_true])]
    by_cases hc : chain s s.size 0 = true
    · rw [if_pos hc, utf_Quote.f, if_pos (by omega), Option.bind_some, ref_quote s (by omega) _ (by omega), Option.bind_some, beq_self_eq_true]
    · rw [if_neg hc]
end Go.Proofs.YtenbeniaohigmaaDoor.Pure
