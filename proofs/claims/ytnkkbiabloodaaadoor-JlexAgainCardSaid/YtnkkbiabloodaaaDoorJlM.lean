/- A whole number's digits: read, they are the number. Plain lemmas. The document's quoting of a text. Plain lemmas. The words of a text: there is an answer for each text; what stands in it. Plain lemmas. The words of a text, written one behind the other, are the same words. Plain lemmas. The words, written one behind the other, are read as the same words. Plain lemmas. No conditions beside those stated. -/
import Derived.Test.YtnkkbiabloodaaaDoorUnqM
import Derived.Test.YtnkkbiabloodaaaDoorJlWhole
import Derived.Test.YtnkkbiabloodaaaDoorGUtx12
import Derived.Test.YtnkkbiabloodaaaDoorGUtWord
import Derived.Test.YtnkkbiabloodaaaDoorGUtx2
import Derived.Test.YtnkkbiabloodaaaDoorGUtx5
namespace Go.Proofs.YtnkkbiabloodaaaDoor.Pure
open Go.RowKit Go.Proofs.YtnkkbiabloodaaaDoor.GUt Go.Proofs.YtnkkbiabloodaaaDoorW.PrintWords Go.Proofs.YtnkkbiabloodaaaDoorW.PrintLast Go.Proofs.YtnkkbiabloodaaaDoorW.PrintMore
set_option linter.unusedVariables false

/-- The digits. -/
def digs : Nat → Nat → List Int
  | 0, _ => []
  | f + 1, N => if N < 10 then [48 + (N : Int)] else digs f (N / 10) ++ [48 + ((N % 10 : Nat) : Int)]
theorem digs_rng : ∀ f N, ∀ x ∈ digs f N, 48 ≤ x ∧ x ≤ 57
  | 0, N, x, h => by rw [digs] at h; cases h
  | f + 1, N, x, h => by
    rw [digs] at h
    by_cases q : N < 10
    · rw [if_pos q, List.mem_singleton] at h
      omega
    · rw [if_neg q, List.mem_append, List.mem_singleton] at h
      rcases h with h | h
      · exact digs_rng f _ x h
      · omega
theorem digs_len : ∀ f N, (digs f N).length ≤ f
  | 0, N => Nat.le_refl _
  | f + 1, N => by
    have := digs_len f (N / 10)
    rw [digs]
    split
    · simp
    · rw [List.length_append]; simp; omega
theorem digs_one (f N : Nat) (h : N < 10) : digs (f + 1) N = [48 + (N : Int)] := by rw [digs, if_pos h]
theorem digs_head : ∀ f N, N < 10 ^ f → 1 ≤ N → ∃ x l, digs f N = x :: l ∧ 49 ≤ x
  | 0, N, h, h1 => by simp at h; omega
  | f + 1, N, h, h1 => by
    rw [digs]
    by_cases q : N < 10
    · rw [if_pos q]
      exact ⟨_, _, rfl, by omega⟩
    · rw [if_neg q]
      obtain ⟨x, l, e, hx⟩ := digs_head f (N / 10) (by rw [Nat.pow_succ] at h; omega) (by omega)
      rw [e]
      exact ⟨x, _, rfl, hx⟩
theorem nums_list (xs : List Int) : (strOfNums xs).data.toList = xs.map fun x => x.toNat.toUInt8 := by
  simp [strOfNums]
theorem valL_snoc : ∀ (l : List UInt8) (b : UInt8) (a : Nat), valL (l ++ [b]) a = 10 * valL l a + (b.toNat - 48)
  | [], b, a => rfl
  | x :: l, b, a => by rw [List.cons_append, valL, valL, valL_snoc l b]
theorem digs_val : ∀ f N, N < 10 ^ f → valL ((digs f N).map fun x => x.toNat.toUInt8) 0 = N
  | 0, N, h => by simp at h; rw [digs, List.map_nil, valL]; omega
  | f + 1, N, h => by
    have u8 : ∀ d : Nat, d < 10 → ((48 + (d : Int)).toNat.toUInt8).toNat - 48 = d := by
      intro d hd
      have e : (48 + (d : Int)).toNat = 48 + d := by omega
      rw [e]
      simp
      omega
    rw [digs]
    by_cases q : N < 10
    · rw [if_pos q, List.map_cons, List.map_nil, valL, valL, u8 N q, Nat.mul_zero, Nat.zero_add]
    · rw [if_neg q, List.map_append, List.map_cons, List.map_nil, valL_snoc, digs_val f (N / 10) (by rw [Nat.pow_succ] at h; omega), u8 (N % 10) (by omega)]
      omega
def decT (v : Int) : ByteArray := (if v < 0 then (⟨#[45]⟩ : ByteArray) else ⟨#[]⟩) ++ strOfNums (digs 20 v.natAbs)
theorem app_nil (s : ByteArray) : s ++ (⟨#[]⟩ : ByteArray) = s := by
  apply ByteArray.ext
  simp
theorem nil_app (s : ByteArray) : (⟨#[]⟩ : ByteArray) ++ s = s := by
  apply ByteArray.ext
  simp
theorem nums_cat (xs ys : List Int) : strOfNums xs ++ strOfNums ys = strOfNums (xs ++ ys) := by
  apply ByteArray.ext
  simp [strOfNums]
theorem dec_loop (v : Int) (hv : -9223372036854775808 ≤ v ∧ v ≤ 9223372036854775807) : ∀ (f N : Nat) (n : Int) (acc : List Int), N < 10 ^ f → (n = (N : Int) ∨ n = -(N : Int)) → (1 ≤ N ∨ acc = []) → acc.length + f ≤ 20 → 1 ≤ f → N ≤ 9223372036854775808 →
    Ev (fun k => bosunlaw07_decimal.l0 k v (strOfNums acc) n) ((if v < 0 then (⟨#[45]⟩ : ByteArray) else ⟨#[]⟩) ++ strOfNums (digs f N ++ acc))
  | 0, N, n, acc, _, _, _, _, h1, _ => absurd h1 (by decide)
  | f + 1, N, n, acc, hN, hn, hne, hl, _, hM => by
    -- one round of the loop
    have fin : ∀ (acc : List Int), acc ≠ [] → acc.length ≤ 20 → Ev (fun k => bosunlaw07_decimal.l0 k v (strOfNums acc) 0) ((if v < 0 then (⟨#[45]⟩ : ByteArray) else ⟨#[]⟩) ++ strOfNums acc) := by
      intro acc ha hz
      have e : ((strOfNums acc).toList == ([] : List UInt8)) = false := by
        rw [ByteArray.toList_eq, nums_list]
        cases acc with
        | nil => exact absurd rfl ha
        | cons a l => rfl
      refine Ev.step (fun k => by rw [bosunlaw07_decimal.l0, if_pos rfl, e]) ?_
      have hs : (strOfNums acc).size ≤ 20 := by rw [nums_len]; exact hz
      by_cases q : v < 0
      · rw [if_pos q]
        exact Ev.step (fun k => by rw [bosunlaw07_decimal.j1, if_neg Bool.false_ne_true, if_pos q, if_pos (by omega)]) (Ev.now _)
      · rw [if_neg q, nil_app]
        exact Ev.step (fun k => by rw [bosunlaw07_decimal.j1, if_neg Bool.false_ne_true, if_neg q]) (Ev.now _)
    have hd : ∃ d : Nat, d = N % 10 ∧ (Int.tmod n 10 = (d : Int) ∨ Int.tmod n 10 = -(d : Int)) := by
      refine ⟨N % 10, rfl, ?_⟩
      rcases hn with rfl | rfl
      · left
        rw [Int.tmod_eq_emod_of_nonneg (by omega)]
        omega
      · right
        rw [Int.neg_tmod, Int.tmod_eq_emod_of_nonneg (by omega)]
        omega
    have hq : Int.tdiv n 10 = ((N / 10 : Nat) : Int) ∨ Int.tdiv n 10 = -((N / 10 : Nat) : Int) := by
      rcases hn with rfl | rfl
      · left
        rw [Int.tdiv_eq_ediv_of_nonneg (by omega)]
        omega
      · right
        rw [Int.neg_tdiv, Int.tdiv_eq_ediv_of_nonneg (by omega)]
        omega
    obtain ⟨d, hdN, hd⟩ := hd
    have hd9 : d ≤ 9 := by omega
    have hwq : wrap64 (Int.tdiv n 10) = Int.tdiv n 10 := by
      have : N / 10 ≤ 922337203685477580 := by omega
      rcases hq with e | e <;> rw [e] <;> exact i64_id (by omega) (by omega)
    have hsz : (strOfNums acc).size ≤ 20 := by rw [nums_len]; omega
    have h1z : ∀ c : Int, (strOfNums [c]).size = 1 := fun c => by rw [nums_len]; rfl
    have round : ∀ k, bosunlaw07_decimal.j1 (k + 1) v (strOfNums acc) n true = bosunlaw07_decimal.l0 k v (strOfNums ((48 + (d : Int)) :: acc)) (Int.tdiv n 10) := by
      intro k
      have ec : strOfNums [48 + (d : Int)] ++ strOfNums acc = strOfNums ((48 + (d : Int)) :: acc) := nums_cat _ _
      rw [bosunlaw07_decimal.j1, if_pos rfl]
      by_cases q : Int.tmod n 10 < 0
      · have e : wrap64 (48 + wrap64 (-(Int.tmod n 10))) % 256 = 48 + (d : Int) := by
          rw [i64_id (x := -(Int.tmod n 10)) (by omega) (by omega), i64_id (by omega) (by omega)]
          omega
        rw [if_pos q, Option.bind_some, e, if_pos (by rw [h1z]; omega), hwq, ec]
      · have e : wrap64 (48 + Int.tmod n 10) % 256 = 48 + (d : Int) := by
          rw [i64_id (by omega) (by omega)]
          omega
        rw [if_neg q, Option.bind_some, e, if_pos (by rw [h1z]; omega), hwq, ec]
    have start : ∀ k, bosunlaw07_decimal.l0 (k + 1) v (strOfNums acc) n = bosunlaw07_decimal.j1 k v (strOfNums acc) n true := by
      intro k
      rw [bosunlaw07_decimal.l0]
      by_cases q : n = 0
      · have hN0 : ¬ 1 ≤ N := by omega
        have ha : acc = [] := by
          rcases hne with h | h
          · exact absurd h hN0
          · exact h
        have e : ((strOfNums acc).toList == ([] : List UInt8)) = true := by
          rw [ha, ByteArray.toList_eq, nums_list]
          rfl
        rw [if_pos q, e]
      · rw [if_neg q]
    refine Ev.step start (Ev.step round ?_)
    rw [digs]
    by_cases q : N < 10
    · have h0 : Int.tdiv n 10 = 0 := by
        have : N / 10 = 0 := by omega
        rw [this] at hq
        omega
      rw [if_pos q, h0]
      have hdd : d = N := by omega
      rw [hdd]
      exact fin _ (by simp) (by simp; omega)
    · rw [if_neg q]
      have hf : 1 ≤ f := by
        rcases Nat.eq_zero_or_pos f with e | e
        · rw [e] at hN
          simp at hN
          omega
        · exact e
      have ih := dec_loop v hv f (N / 10) (Int.tdiv n 10) ((48 + (d : Int)) :: acc) (by rw [Nat.pow_succ] at hN; omega) hq (.inl (by omega)) (by rw [List.length_cons]; omega) hf (by omega)
      rw [hdN] at ih ⊢
      rw [List.append_assoc, List.singleton_append]
      exact ih
theorem dec_ev (v : Int) (hv : -9223372036854775808 ≤ v ∧ v ≤ 9223372036854775807) : Ev (fun k => bosunlaw07_decimal.f k v) (decT v) := by
  have hp : (10 : Nat) ^ 20 = 100000000000000000000 := by decide
  have h := dec_loop v hv 20 v.natAbs v [] (by omega) (by omega) (.inr rfl) (by simp) (by decide) (by omega)
  rw [List.append_nil] at h
  exact h
theorem dec_size (v : Int) : 1 ≤ (decT v).size ∧ (decT v).size ≤ 21 := by
  have h := digs_len 20 v.natAbs
  have h1 : 1 ≤ (digs 20 v.natAbs).length := by
    rw [digs]
    split <;> simp
  unfold decT
  rw [ByteArray.size_append, nums_len]
  have e1 : (⟨#[45]⟩ : ByteArray).size = 1 := rfl
  have e0 : (⟨#[]⟩ : ByteArray).size = 0 := rfl
  by_cases q : v < 0
  · rw [if_pos q, e1]; omega
  · rw [if_neg q, e0]; omega
theorem dec_bytes (v : Int) : ∀ j : Nat, j < (decT v).size → (48 ≤ bt (decT v) (j : Int) ∧ bt (decT v) (j : Int) ≤ 57) ∨ (bt (decT v) (j : Int) = 45 ∧ j = 0) := by
  intro j hj
  have hx : ∀ x ∈ digs 20 v.natAbs, 0 ≤ x ∧ x < 256 := fun x hx => by
    have := digs_rng 20 v.natAbs x hx
    omega
  have dg : ∀ i : Nat, i < (digs 20 v.natAbs).length → 48 ≤ bt (strOfNums (digs 20 v.natAbs)) (i : Int) ∧ bt (strOfNums (digs 20 v.natAbs)) (i : Int) ≤ 57 := fun i hi => by
    rw [bt_nums _ i hi hx]
    exact digs_rng 20 v.natAbs _ (List.getElem_mem hi)
  unfold decT at hj ⊢
  by_cases q : v < 0
  · rw [if_pos q] at hj ⊢
    have e1 : (⟨#[45]⟩ : ByteArray).size = 1 := rfl
    rw [ByteArray.size_append, nums_len, e1] at hj
    by_cases h0 : j = 0
    · subst h0
      right
      rw [bt_left _ _ 0 (by decide)]
      exact ⟨rfl, rfl⟩
    · left
      obtain ⟨i, rfl⟩ : ∃ i, j = 1 + i := ⟨j - 1, by omega⟩
      have := bt_right (⟨#[45]⟩ : ByteArray) (strOfNums (digs 20 v.natAbs)) i
      rw [e1] at this
      rw [this]
      exact dg i (by omega)
  · rw [if_neg q, nil_app] at hj ⊢
    rw [nums_len] at hj
    exact .inl (dg j hj)
theorem whole_digs (N : Nat) (less : Bool) (h : N ≤ mostN less) : wholeN (strOfNums (digs 20 N)) less (mostN less) = (if less = true then -(N : Int) else (N : Int), 0) := by
  have hx : ∀ x ∈ digs 20 N, 0 ≤ x ∧ x < 256 := fun x hx => by
    have := digs_rng 20 N x hx
    omega
  have hm : mostN less < 10 ^ 20 := by cases less <;> decide
  have hlen : 1 ≤ (digs 20 N).length := by
    rw [digs]
    split <;> simp
  have hval := digs_val 20 N (by omega)
  have hall : allD (strOfNums (digs 20 N)).data.toList := by
    rw [nums_list]
    intro b hb
    obtain ⟨x, hx1, rfl⟩ := List.mem_map.1 hb
    have := digs_rng 20 N x hx1
    have e : (x.toNat.toUInt8).toNat = x.toNat := by simp; omega
    omega
  have hdig : digN (strOfNums (digs 20 N)) (strOfNums (digs 20 N)).size 0 = true := (digN_all _ _ 0 (by omega)).2 (by rw [List.drop_zero]; exact hall)
  have h0 : ¬ ((strOfNums (digs 20 N)).size = 0 ∨ (1 < (strOfNums (digs 20 N)).size ∧ bt (strOfNums (digs 20 N)) 0 = 48)) := by
    rw [nums_len]
    rintro (q | ⟨q1, q2⟩)
    · omega
    · by_cases hN : N < 10
      · rw [digs_one 19 N hN] at q1
        simp at q1
      · obtain ⟨x, l, e, hx49⟩ := digs_head 20 N (by omega) (by omega)
        have := bt_nums (digs 20 N) 0 (by omega) hx
        have e2 : (digs 20 N)[0]'(by omega) = x := by simp only [e, List.getElem_cons_zero]
        rw [e2] at this
        have q3 : bt (strOfNums (digs 20 N)) ((0 : Nat) : Int) = 48 := q2
        omega
  rw [wholeN, if_neg h0, if_pos hdig, nums_list, hval, outN, if_neg (by omega)]
  cases less <;> rfl
theorem whole_dec (v : Int) (hv : -9223372036854775808 ≤ v ∧ v ≤ 9223372036854775807) : wholeT (decT v) = (v, 0) := by
  have hz := dec_size v
  have e1 : (⟨#[45]⟩ : ByteArray).size = 1 := rfl
  by_cases q : v < 0
  · have e : decT v = (⟨#[45]⟩ : ByteArray) ++ strOfNums (digs 20 v.natAbs) := by unfold decT; rw [if_pos q]
    have b0 : bt (decT v) 0 = 45 := by
      rw [e]
      have := bt_left (⟨#[45]⟩ : ByteArray) (strOfNums (digs 20 v.natAbs)) 0 (by decide)
      exact this.trans rfl
    have ex : (decT v).extract 1 (decT v).size = strOfNums (digs 20 v.natAbs) := by
      apply ByteArray.ext
      apply Array.ext'
      rw [ByteArray.data_extract, Array.toList_extract]
      show ((decT v).data.toList.drop 1).take ((decT v).size - 1) = _
      rw [List.take_of_length_le (by rw [List.length_drop, len_list]; exact Nat.le_refl _), e]
      simp
    have m := whole_digs v.natAbs true (by show _ ≤ 9223372036854775808; omega)
    rw [wholeT, if_pos ⟨by omega, b0⟩, ex, m, if_pos rfl]
    congr 1
    omega
  · have e : decT v = strOfNums (digs 20 v.natAbs) := by unfold decT; rw [if_neg q, nil_app]
    have hb := dec_bytes v 0 (by omega)
    have n45 : bt (decT v) 0 ≠ 45 := by
      intro h45
      have hx : ∀ x ∈ digs 20 v.natAbs, 0 ≤ x ∧ x < 256 := fun x hx => by
        have := digs_rng 20 v.natAbs x hx
        omega
      have hlen : 0 < (digs 20 v.natAbs).length := by
        rw [digs]
        split <;> simp
      have := bt_nums (digs 20 v.natAbs) 0 hlen hx
      have r := digs_rng 20 v.natAbs _ (List.getElem_mem hlen)
      rw [e] at h45
      have h46 : bt (strOfNums (digs 20 v.natAbs)) ((0 : Nat) : Int) = 45 := h45
      omega
    have m := whole_digs v.natAbs false (by show _ ≤ 9223372036854775807; omega)
    rw [wholeT, if_neg (fun h => n45 h.2), e, m, if_neg Bool.false_ne_true]
    congr 1
    omega
end Go.Proofs.YtnkkbiabloodaaaDoor.Pure
namespace Go.Proofs.YtnkkbiabloodaaaDoor.Pure
open Go.RowKit Go.Proofs.YtnkkbiabloodaaaDoor.GUt Go.Proofs.YtnkkbiabloodaaaDoorW.PrintWords Go.Proofs.YtnkkbiabloodaaaDoorW.PrintLast Go.Proofs.YtnkkbiabloodaaaDoorW.PrintMore

theorem hex_fin : ∀ n : Fin 16, bosunref06_hex.f ((n.val : Nat) : Int) = some (bt digT ((n.val : Nat) : Int)) := by decide +kernel
theorem hex_is (n : Int) (h0 : 0 ≤ n) (h1 : n < 16) : bosunref06_hex.f n = some (bt digT n) := by
  obtain ⟨m, rfl⟩ := Int.eq_ofNat_of_zero_le h0
  exact hex_fin ⟨m, by omega⟩
theorem ref_round (k : Nat) (s : ByteArray) (acc : List Int) (i : Nat) (b : Int) (hs : s.size ≤ 1000000000) (hi : i < s.size) (ha : acc.length ≤ 10000000000) (hb : 0 ≤ b ∧ b ≤ 255) :
    bosunref06_Quote.j1 (k + 1) s acc (i : Int) b (decide (b = 34 ∨ b = 92)) = bosunref06_Quote.l0 k s (acc ++ quoteI b) ((i + 1 : Nat) : Int) := by
  have hw : wrap64 ((i : Int) + 1) = ((i + 1 : Nat) : Int) := by rw [i64_id (by omega) (by omega)]; omega
  have ha' : acc.length + 6 < 140737488355328 := by omega
  rw [bosunref06_Quote.j1]
  unfold quoteI shortI
  by_cases h1 : b = 34
  · rw [if_pos (decide_eq_true (.inl h1)), Option.bind_some, if_pos (by simp; omega), hw, if_pos h1, if_pos (by omega)]
  by_cases h2 : b = 92
  · rw [if_pos (decide_eq_true (.inr h2)), Option.bind_some, if_pos (by simp; omega), hw, if_neg h1, if_pos h2, if_pos (by omega)]
  rw [decide_eq_false (show ¬ (b = 34 ∨ b = 92) by omega), if_neg (show ¬ (false = true) by decide), if_neg h1, if_neg h2]
  by_cases h3 : b = 10
  · rw [if_pos h3, Option.bind_some, if_pos (by simp; omega), hw, if_pos h3, if_pos (by decide)]
  rw [if_neg h3, if_neg h3]
  by_cases h4 : b = 13
  · rw [if_pos h4, Option.bind_some, if_pos (by simp; omega), hw, if_pos h4, if_pos (by decide)]
  rw [if_neg h4, if_neg h4]
  by_cases h5 : b = 9
  · rw [if_pos h5, Option.bind_some, if_pos (by simp; omega), hw, if_pos h5, if_pos (by decide)]
  rw [if_neg h5, if_neg h5]
  by_cases h6 : b = 8
  · rw [if_pos h6, Option.bind_some, if_pos (by simp; omega), hw, if_pos h6, if_pos (by decide)]
  rw [if_neg h6, if_neg h6]
  by_cases h7 : b = 12
  · rw [if_pos h7, Option.bind_some, if_pos (by simp; omega), hw, if_pos h7, if_pos (by decide)]
  rw [if_neg h7, if_neg h7, if_neg (show ¬ ((0 : Int) ≠ 0) by decide)]
  by_cases h8 : b < 32
  · have e1 : wrap64 (Int.tdiv (wrap64 b) 16) = b / 16 := by
      rw [i64_id (x := b) (by omega) (by omega), Int.tdiv_eq_ediv_of_nonneg hb.1, i64_id (by omega) (by omega)]
    have e2 : Int.tmod (wrap64 b) 16 = b % 16 := by
      rw [i64_id (x := b) (by omega) (by omega), Int.tmod_eq_emod_of_nonneg hb.1]
    rw [if_pos h8, e1, e2, hex_is _ (by omega) (by omega), hex_is _ (by omega) (by omega), Option.bind_some, Option.bind_some, Option.bind_some, if_pos (by simp; omega), hw, if_pos h8]
  · rw [if_neg h8, if_neg h8]
    rw [if_pos (by omega), hw]
theorem ref_loop (s : ByteArray) (hs : s.size ≤ 100000000) : ∀ (n i k : Nat) (acc : List Int), i + n = s.size → acc.length ≤ 1 + 6 * i → 2 * n + 2 < k → bosunref06_Quote.l0 k s acc (i : Int) = some (strOfNums acc ++ quoteR s n i)
  | 0, i, k, acc, h, ha, hk => by
    obtain ⟨k, rfl⟩ : ∃ j, k = j + 1 := ⟨k - 1, by omega⟩
    rw [bosunref06_Quote.l0, if_neg (show ¬ (i : Int) < (s.size : Int) by omega), if_pos (by omega), quoteR, nums_add]
  | n + 1, i, k, acc, h, ha, hk => by
    obtain ⟨k, rfl⟩ : ∃ j, k = j + 2 := ⟨k - 2, by omega⟩
    have hr := bt_range s i
    have hq : (quoteI (bt s i)).length ≤ 6 := by
      unfold quoteI
      repeat' split
      all_goals simp
    have ih := ref_loop s hs n (i + 1) k (acc ++ quoteI (bt s i)) (by omega) (by rw [List.length_append]; omega) (by omega)
    have rr := ref_round k s acc i (bt s i) (by omega) (by omega) (by omega) hr
    rw [bosunref06_Quote.l0, if_pos (show (i : Int) < (s.size : Int) by omega), if_pos (show 0 ≤ (i : Int) by omega)]
    have e : (if bt s i = 34 then bosunref06_Quote.j1 (k + 1) s acc (i : Int) (bt s i) true else bosunref06_Quote.j1 (k + 1) s acc (i : Int) (bt s i) (bt s i == 92)) = bosunref06_Quote.j1 (k + 1) s acc (i : Int) (bt s i) (decide (bt s i = 34 ∨ bt s i = 92)) := by
      by_cases h1 : bt s i = 34
      · rw [if_pos h1, decide_eq_true (.inl h1)]
      · rw [if_neg h1]
        congr 1
        by_cases h2 : bt s i = 92
        · rw [decide_eq_true (.inr h2)]; exact beq_iff_eq.2 h2
        · rw [decide_eq_false (by omega)]; exact beq_eq_false_iff_ne.2 h2
    rw [e, rr, ih, quoteR, ← nums_add, ByteArray.append_assoc]
theorem ref_quote (s : ByteArray) (hs : s.size ≤ 100000000) (k : Nat) (hk : 2 * s.size + 2 < k) : bosunref06_Quote.f k s = some (strOfNums [34] ++ quoteR s s.size 0) :=
  ref_loop s hs s.size 0 k [34] (by omega) (by simp) hk
end Go.Proofs.YtnkkbiabloodaaaDoor.Pure
namespace Go.Proofs.YtnkkbiabloodaaaDoor.Pure
open Go.RowKit Go.Proofs.YtnkkbiabloodaaaDoor.GUt Go.Proofs.YtnkkbiabloodaaaDoorW.PrintWords Go.Proofs.YtnkkbiabloodaaaDoorW.PrintLast Go.Proofs.YtnkkbiabloodaaaDoorW.PrintMore
set_option linter.unusedVariables false

def blank (b : Int) : Prop := b = 32 ∨ b = 9 ∨ b = 10 ∨ b = 13
instance (b : Int) : Decidable (blank b) := by unfold blank; exact inferInstance
def skipB (s : ByteArray) : Nat → Nat → Nat
  | 0, i => i
  | m + 1, i => if blank (bt s (i : Int)) then skipB s m (i + 1) else i
theorem skipB_ge (s : ByteArray) : ∀ m i, i ≤ skipB s m i ∧ skipB s m i ≤ i + m
  | 0, i => ⟨Nat.le_refl _, Nat.le_refl _⟩
  | m + 1, i => by
    have := skipB_ge s m (i + 1)
    rw [skipB]
    split <;> omega
theorem skip_ev (s : ByteArray) (hs : s.size ≤ 100000000) : ∀ m i, i + m = s.size → Ev (fun k => jlex_skip.l0 k s (i : Int)) ((skipB s m i : Nat) : Int)
  | 0, i, h => by
    rw [skipB]
    exact Ev.step (fun k => by rw [jlex_skip.l0, if_neg (by omega)]) (Ev.now _)
  | m + 1, i, h => by
    have w1 := wi (i := i) (by omega)
    have p0 : (0 : Int) ≤ (i : Int) := by omega
    have p1 : (i : Int) < (s.size : Int) := by omega
    have ih := skip_ev s hs m (i + 1) (by omega)
    have j1 : ∀ b : Bool, (b = true ↔ (bt s (i : Int) = 32 ∨ bt s (i : Int) = 9)) → Ev (fun k => jlex_skip.j1 k s (i : Int) (bt s (i : Int)) b) ((skipB s (m + 1) i : Nat) : Int) := by
      intro b hb
      rw [skipB]
      by_cases q : b = true
      · rw [if_pos (by rcases hb.1 q with q | q <;> unfold blank <;> omega)]
        exact Ev.step (fun k => by rw [jlex_skip.j1, if_pos q, w1]) ih
      · have n1 : ¬ (bt s (i : Int) = 32 ∨ bt s (i : Int) = 9) := fun x => q (hb.2 x)
        by_cases h10 : bt s (i : Int) = 10
        · rw [if_pos (by unfold blank; omega)]
          exact Ev.step (fun k => by rw [jlex_skip.j1, if_neg q, if_pos h10, w1]) ih
        · by_cases h13 : bt s (i : Int) = 13
          · rw [if_pos (by unfold blank; omega)]
            exact Ev.step (fun k => by rw [jlex_skip.j1, if_neg q, if_neg h10, if_pos h13, w1]) ih
          · rw [if_neg (by unfold blank; omega)]
            exact Ev.step (fun k => by rw [jlex_skip.j1, if_neg q, if_neg h10, if_neg h13]) (Ev.now _)
    by_cases h32 : bt s (i : Int) = 32
    · exact Ev.step (fun k => by rw [jlex_skip.l0, if_pos p1, if_pos p0, if_pos h32]) (j1 (bt s (i : Int) == 32) ⟨fun q => .inl (beq_iff_eq.1 q), fun _ => beq_iff_eq.2 h32⟩)
    · exact Ev.step (fun k => by rw [jlex_skip.l0, if_pos p1, if_pos p0, if_neg h32]) (j1 (bt s (i : Int) == 9) ⟨fun q => .inr (beq_iff_eq.1 q), fun q => beq_iff_eq.2 (by
        rcases q with q | q
        · exact absurd q h32
        · exact q)⟩)
theorem skip_f (s : ByteArray) (hs : s.size ≤ 100000000) (i : Nat) (hi : i ≤ s.size) : Ev (fun k => jlex_skip.f k s (i : Int)) ((skipB s (s.size - i) i : Nat) : Int) := skip_ev s hs (s.size - i) i (by omega)
/-- A letter, or what a number may have. -/
def letterB (b : Int) : Bool := decide ((97 ≤ b ∧ b ≤ 122) ∨ (65 ≤ b ∧ b ≤ 90))
def runB (b : Int) (num : Bool) : Bool := letterB b || (num && (decide (48 ≤ b ∧ b ≤ 57) || (b == 46 || (b == 43 || b == 45))))
theorem letter_is (b : Int) : jlex_letter.f b = some (letterB b) := by
  unfold jlex_letter.f letterB
  by_cases h1 : b ≥ 97
  · rw [if_pos h1]
    by_cases h2 : b ≤ 122
    · rw [if_pos h2, decide_eq_true (.inl ⟨h1, h2⟩)]
    · rw [if_neg h2, if_pos (by omega)]
      congr 1
      exact decide_eq_decide.2 ⟨fun q => by omega, fun q => by omega⟩
  · rw [if_neg h1]
    by_cases h3 : b ≥ 65
    · rw [if_pos h3]
      congr 1
      exact decide_eq_decide.2 ⟨fun q => by omega, fun q => by omega⟩
    · rw [if_neg h3, decide_eq_false (by omega)]
def runE (s : ByteArray) (num : Bool) : Nat → Nat → Nat
  | 0, i => i
  | m + 1, i => if runB (bt s (i : Int)) num = true then runE s num m (i + 1) else i
theorem runE_ge (s : ByteArray) (num : Bool) : ∀ m i, i ≤ runE s num m i ∧ runE s num m i ≤ i + m
  | 0, i => ⟨Nat.le_refl _, Nat.le_refl _⟩
  | m + 1, i => by
    have := runE_ge s num m (i + 1)
    rw [runE]
    split <;> omega
theorem run_ev (s : ByteArray) (hs : s.size ≤ 100000000) (num : Bool) : ∀ m i, i + m = s.size → Ev (fun k => jlex_run.l0 k s num (i : Int)) ((runE s num m i : Nat) : Int)
  | 0, i, h => by
    rw [runE]
    exact Ev.step (fun k => by rw [jlex_run.l0, if_neg (by omega)]) (Ev.now _)
  | m + 1, i, h => by
    have w1 := wi (i := i) (by omega)
    have p0 : (0 : Int) ≤ (i : Int) := by omega
    have p1 : (i : Int) < (s.size : Int) := by omega
    have ih := run_ev s hs num m (i + 1) (by omega)
    rw [runE]
    by_cases hl : letterB (bt s (i : Int)) = true
    · rw [if_pos (by unfold runB; rw [hl]; rfl)]
      exact Ev.step (fun k => by rw [jlex_run.l0, if_pos p1, if_pos p0, letter_is, hl, Option.bind_some, if_pos rfl, w1]) ih
    have hl' : letterB (bt s (i : Int)) = false := by
      cases hq : letterB (bt s (i : Int)) with
      | true => exact absurd hq hl
      | false => rfl
    cases num with
    | false =>
      rw [if_neg (by unfold runB; rw [hl']; simp)]
      exact Ev.step (fun k => by rw [jlex_run.l0, if_pos p1, if_pos p0, letter_is, hl', Option.bind_some, if_neg Bool.false_ne_true, if_neg Bool.false_ne_true]) (Ev.now _)
    | true =>
      have e : runB (bt s (i : Int)) true = (decide (48 ≤ bt s (i : Int) ∧ bt s (i : Int) ≤ 57) || (bt s (i : Int) == 46 || (bt s (i : Int) == 43 || bt s (i : Int) == 45))) := by unfold runB; rw [hl', Bool.false_or, Bool.true_and]
      rw [e]
      by_cases hd : 48 ≤ bt s (i : Int) ∧ bt s (i : Int) ≤ 57
      · rw [decide_eq_true hd, Bool.true_or, if_pos rfl]
        exact Ev.step (fun k => by rw [jlex_run.l0, if_pos p1, if_pos p0, letter_is, hl', Option.bind_some, if_neg Bool.false_ne_true, if_pos rfl, dig_is, decide_eq_true hd, Option.bind_some, if_pos rfl, w1]) ih
      rw [decide_eq_false hd, Bool.false_or]
      have first : ∀ k, jlex_run.l0 (k + 1) s true (i : Int) = if bt s (i : Int) = 46 then jlex_run.l0 k s true ((i + 1 : Nat) : Int) else if bt s (i : Int) = 43 then jlex_run.l0 k s true ((i + 1 : Nat) : Int) else if bt s (i : Int) = 45 then jlex_run.l0 k s true ((i + 1 : Nat) : Int) else some (i : Int) := fun k => by
        rw [jlex_run.l0, if_pos p1, if_pos p0, letter_is, hl', Option.bind_some, if_neg Bool.false_ne_true, if_pos rfl, dig_is, decide_eq_false hd, Option.bind_some, if_neg Bool.false_ne_true, w1]
      by_cases h46 : bt s (i : Int) = 46
      · rw [if_pos (by rw [h46]; rfl)]
        exact Ev.step (fun k => by rw [first, if_pos h46]) ih
      by_cases h43 : bt s (i : Int) = 43
      · rw [if_pos (by rw [h43]; rfl)]
        exact Ev.step (fun k => by rw [first, if_neg h46, if_pos h43]) ih
      by_cases h45 : bt s (i : Int) = 45
      · rw [if_pos (by rw [h45]; rfl)]
        exact Ev.step (fun k => by rw [first, if_neg h46, if_neg h43, if_pos h45]) ih
      · rw [if_neg (by simp [h46, h43, h45])]
        exact Ev.step (fun k => by rw [first, if_neg h46, if_neg h43, if_neg h45]) (Ev.now _)
/-! Unquote has an answer for each text. -/
theorem hexE_any (s : ByteArray) : ∀ (n p : Nat) (v : Int), ∃ r, hexE s n p v = some r
  | 0, p, v => ⟨_, rfl⟩
  | n + 1, p, v => by
    rw [hexE]
    by_cases h : p < s.size
    · rw [if_pos h]
      have e : ∃ b, utf_lower.f (bt s (p : Int)) = some b := by
        unfold utf_lower.f
        repeat' split
        all_goals exact ⟨_, rfl⟩
      obtain ⟨b, hb⟩ := e
      rw [hb, Option.bind_some]
      obtain ⟨d, hd⟩ : ∃ d, strings_IndexByte.f digT b = some d := ⟨_, rfl⟩
      rw [hd, Option.bind_some]
      by_cases h0 : d < 0
      · rw [if_pos h0]; exact ⟨_, rfl⟩
      · rw [if_neg h0]; exact hexE_any s n (p + 1) _
    · rw [if_neg h]; exact ⟨_, rfl⟩
theorem low_any (x : Int) : ∃ b, utf_low.f x = some b := by
  unfold utf_low.f
  split
  all_goals exact ⟨_, rfl⟩
theorem high_any (x : Int) : ∃ b, utf_high.f x = some b := by
  unfold utf_high.f
  split
  all_goals exact ⟨_, rfl⟩
theorem pre_any (a b : ByteArray) : ∃ r, strings_HasPrefix.f a b = some r := by
  rw [strings_HasPrefix.f, stringslite_HasPrefix.f]
  by_cases h : (a.size : Int) ≥ (b.size : Int)
  · rw [if_pos h, if_pos (by omega), if_pos (by omega)]
    exact ⟨_, rfl⟩
  · rw [if_neg h]
    exact ⟨_, rfl⟩
theorem pre_size (a b : ByteArray) (h : strings_HasPrefix.f a b = some true) : b.size ≤ a.size := by
  rw [strings_HasPrefix.f, stringslite_HasPrefix.f] at h
  by_cases q : (a.size : Int) ≥ (b.size : Int)
  · omega
  · rw [if_neg q] at h
    simp at h
theorem uniE_any (s : ByteArray) (p : Nat) (hp : p ≤ s.size) (out : ByteArray) (ho : out.size ≤ 1000000000) : ∃ r, uniE s p out = some r := by
  obtain ⟨⟨x, e1⟩, hx⟩ := hexE_any s 4 p 0
  rw [uniE, hx, Option.bind_some]
  by_cases he : e1 = 0
  rotate_left
  · rw [if_neg he]; exact ⟨_, rfl⟩
  subst he
  have hfit := hexE_fit s 4 p 0 x hp hx
  rw [if_pos rfl]
  obtain ⟨lo, hlo⟩ := low_any x
  rw [hlo, Option.bind_some]
  cases lo with
  | true => rw [if_pos rfl]; exact ⟨_, rfl⟩
  | false =>
    rw [if_neg Bool.false_ne_true]
    obtain ⟨hi, hhi⟩ := high_any x
    rw [hhi, Option.bind_some]
    cases hi with
    | false => rw [if_neg Bool.false_ne_true, if_pos ho]; exact ⟨_, rfl⟩
    | true =>
      rw [if_pos rfl]
      obtain ⟨a, ha⟩ := pre_any (s.extract (p + 4) s.size) ⟨#[92, 117]⟩
      rw [ha, Option.bind_some]
      cases a with
      | false =>
        rw [if_neg Bool.false_ne_true]
        obtain ⟨b, hb⟩ := pre_any ⟨#[92, 117]⟩ (s.extract (p + 4) s.size)
        rw [hb, Option.bind_some]
        exact ⟨_, rfl⟩
      | true =>
        rw [if_pos rfl]
        have hz := pre_size _ _ ha
        have z2 : (⟨#[92, 117]⟩ : ByteArray).size = 2 := rfl
        rw [z2, ByteArray.size_extract] at hz
        rw [if_pos (by omega)]
        obtain ⟨⟨y, e2⟩, hy⟩ := hexE_any s 4 (p + 6) 0
        rw [hy, Option.bind_some]
        by_cases he2 : e2 = 0
        · rw [if_pos he2]
          obtain ⟨l2, hl2⟩ := low_any y
          rw [hl2, Option.bind_some]
          cases l2 with
          | true => rw [if_pos rfl, if_pos ho]; exact ⟨_, rfl⟩
          | false => rw [if_neg Bool.false_ne_true]; exact ⟨_, rfl⟩
        · rw [if_neg he2]; exact ⟨_, rfl⟩
theorem escE_any (s : ByteArray) (p : Nat) (out : ByteArray) (ho : out.size ≤ 1000000000) : ∃ r, escE s p out = some r := by
  rw [escE]
  by_cases hp : p < s.size
  · rw [if_pos hp]
    by_cases hu : bt s p = 117
    · rw [if_pos hu]; exact uniE_any s (p + 1) hp out ho
    · rw [if_neg hu]
      cases escC (bt s p) with
      | none => exact ⟨_, rfl⟩
      | some c => simp only []; rw [if_pos ho]; exact ⟨_, rfl⟩
  · rw [if_neg hp]; exact ⟨_, rfl⟩
theorem dec_fits (s : ByteArray) (p : Nat) (hp : p < s.size) : 1 ≤ (Lib.decodeGo (s.extract p s.size)).2 ∧ p + (Lib.decodeGo (s.extract p s.size)).2 ≤ s.size := by
  have hne : (s.extract p s.size).size ≠ 0 := by rw [ByteArray.size_extract]; omega
  rcases dec_char s p hp with ⟨_, hd⟩ | ⟨c, h0, hd, _⟩
  · have hg : Lib.decodeGo (s.extract p s.size) = (65533, 1) := by rw [Lib.decodeGo, if_neg hne, hd]
    rw [hg]
    exact ⟨Nat.le_refl _, hp⟩
  · have hg : Lib.decodeGo (s.extract p s.size) = (c, charN s p) := by rw [Lib.decodeGo, if_neg hne, hd]
    have hf := charN_fit s p hp
    rw [hg]
    exact ⟨by simp only []; omega, by simp only []; omega⟩
theorem rune_le4 (v : Int) : (runeB v).size ≤ 4 := by
  unfold runeB
  rw [nums_len]
  unfold Lib.encodeRuneZ
  repeat' split
  all_goals simp
theorem uni_grow (s : ByteArray) (p : Nat) (hp : p ≤ s.size) (out r : ByteArray) (p' : Nat) (h : uniE s p out = some (r, p', 0)) : r.size + p ≤ out.size + p' ∧ p ≤ p' ∧ p' ≤ s.size := by
  obtain ⟨⟨x, e1⟩, hx, h⟩ := Option.bind_eq_some_iff.1 h
  simp only [] at h
  by_cases he : e1 = 0
  rotate_left
  · rw [if_neg he] at h
    injection h with h
    injection h with _ h
    injection h with _ h
    exact absurd h he
  subst he
  rw [if_pos rfl] at h
  have hfit := hexE_fit s 4 p 0 x hp hx
  have hx0 := hexE_pos s 4 p 0 x (by decide) (by decide) (by decide) hx
  obtain ⟨lo, hlo, h⟩ := Option.bind_eq_some_iff.1 h
  cases lo with
  | true =>
    rw [if_pos rfl] at h
    injection h with h
    injection h with _ h
    injection h with _ h
    exact absurd h (by decide)
  | false =>
    rw [if_neg Bool.false_ne_true] at h
    have nlo : ¬ (56320 ≤ x ∧ x ≤ 57343) := fun q => Bool.false_ne_true ((low_is x false hlo).2 q)
    obtain ⟨hi, hhi, h⟩ := Option.bind_eq_some_iff.1 h
    cases hi with
    | false =>
      rw [if_neg Bool.false_ne_true] at h
      have nhi : ¬ (55296 ≤ x ∧ x ≤ 56319) := fun q => Bool.false_ne_true ((high_is x false hhi).2 q)
      have hz : out.size ≤ 1000000000 := Decidable.by_contra fun hn => by rw [if_neg hn] at h; cases h
      rw [if_pos hz] at h
      injection h with h
      injection h with q1 h
      injection h with q2 q3
      have c3 := rune_le4 x
      rw [← q1, ← q2]
      exact ⟨by rw [ByteArray.size_append]; omega, by omega, hfit⟩
    | true =>
      rw [if_pos rfl] at h
      have yhi := (high_is x true hhi).1 rfl
      obtain ⟨a, ha, h⟩ := Option.bind_eq_some_iff.1 h
      cases a with
      | false =>
        rw [if_neg Bool.false_ne_true] at h
        obtain ⟨b, hb, h⟩ := Option.bind_eq_some_iff.1 h
        injection h with h
        injection h with _ h
        injection h with _ h
        cases b <;> exact absurd h (by decide)
      | true =>
        rw [if_pos rfl] at h
        have h6 : p + 6 ≤ s.size := Decidable.by_contra fun hn => by rw [if_neg hn] at h; cases h
        rw [if_pos h6] at h
        obtain ⟨⟨y, e2⟩, hy, h⟩ := Option.bind_eq_some_iff.1 h
        simp only [] at h
        by_cases he2 : e2 = 0
        rotate_left
        · rw [if_neg he2] at h
          injection h with h
          injection h with _ h
          injection h with _ h
          exact absurd h he2
        subst he2
        rw [if_pos rfl] at h
        have hfit2 := hexE_fit s 4 (p + 6) 0 y h6 hy
        obtain ⟨l2, hl2, h⟩ := Option.bind_eq_some_iff.1 h
        cases l2 with
        | false =>
          rw [if_neg Bool.false_ne_true] at h
          injection h with h
          injection h with _ h
          injection h with _ h
          exact absurd h (by decide)
        | true =>
          rw [if_pos rfl] at h
          have ylo := (low_is y true hl2).1 rfl
          have hz : out.size ≤ 1000000000 := Decidable.by_contra fun hn => by rw [if_neg hn] at h; cases h
          rw [if_pos hz] at h
          injection h with h
          injection h with q1 h
          injection h with q2 q3
          have c3 := rune_le4 (pairV x y)
          rw [← q1, ← q2]
          exact ⟨by rw [ByteArray.size_append]; omega, by omega, hfit2⟩
theorem esc_grow (s : ByteArray) (p : Nat) (out r : ByteArray) (p' : Nat) (h : escE s p out = some (r, p', 0)) : r.size + p ≤ out.size + p' ∧ p ≤ p' ∧ p' ≤ s.size := by
  rw [escE] at h
  by_cases hp : p < s.size
  rotate_left
  · rw [if_neg hp] at h
    injection h with h
    injection h with _ h
    injection h with _ h
    exact absurd h (by decide)
  rw [if_pos hp] at h
  by_cases hu : bt s p = 117
  · rw [if_pos hu] at h
    have := uni_grow s (p + 1) hp out r p' h
    exact ⟨by omega, by omega, this.2.2⟩
  rw [if_neg hu] at h
  cases hc : escC (bt s p) with
  | none =>
    rw [hc] at h
    injection h with h
    injection h with _ h
    injection h with _ h
    exact absurd h (by decide)
  | some c =>
    rw [hc] at h
    simp only [] at h
    have hz : out.size ≤ 1000000000 := Decidable.by_contra fun hn => by rw [if_neg hn] at h; cases h
    rw [if_pos hz] at h
    injection h with h
    injection h with q1 h
    injection h with q2 q3
    have c1 : 0 ≤ c ∧ c < 128 := by
      unfold escC escB at hc
      repeat' split at hc
      all_goals first | (cases hc; done) | (have hc := Option.some.inj hc; omega)
    rw [← q1, ← q2]
    exact ⟨by rw [ByteArray.size_append, nums_len]; simp; omega, by omega, hp⟩
theorem unqE_any (s : ByteArray) (hs : s.size ≤ 100000000) : ∀ (d p : Nat) (out : ByteArray), s.size - p ≤ d → p ≤ s.size → out.size ≤ p → ∃ r, Ev (fun k => unqE s k p out) r
  | 0, p, out, hd, hp, ho => ⟨_, Ev.step (fun k => by rw [unqE, if_neg (by omega)]) (Ev.now _)⟩
  | d + 1, p, out, hd, hp, ho => by
    by_cases hps : p < s.size
    rotate_left
    · exact ⟨_, Ev.step (fun k => by rw [unqE, if_neg hps]) (Ev.now _)⟩
    by_cases h34 : bt s p = 34
    · by_cases hl : out.size > 4096
      · exact ⟨_, Ev.step (fun k => by rw [unqE, if_pos hps, if_pos h34, if_pos hl]) (Ev.now _)⟩
      · exact ⟨_, Ev.step (fun k => by rw [unqE, if_pos hps, if_pos h34, if_neg hl]) (Ev.now _)⟩
    by_cases h92 : bt s p = 92
    · obtain ⟨⟨o2, p2, er⟩, he⟩ := escE_any s (p + 1) out (by omega)
      by_cases h0 : er = 0
      · subst h0
        have gr : o2.size + (p + 1) ≤ out.size + p2 ∧ p + 1 ≤ p2 ∧ p2 ≤ s.size := by
          have := esc_grow s (p + 1) out o2 p2 he
          exact this
        obtain ⟨r, hr⟩ := unqE_any s hs d p2 o2 (by omega) gr.2.2 (by omega)
        exact ⟨r, Ev.step (fun k => by rw [unqE, if_pos hps, if_neg h34, if_pos h92, he, Option.bind_some, if_pos rfl]) hr⟩
      · exact ⟨_, Ev.step (fun k => by rw [unqE, if_pos hps, if_neg h34, if_pos h92, he, Option.bind_some, if_neg h0]) (Ev.now _)⟩
    by_cases h32 : bt s p < 32
    · exact ⟨_, Ev.step (fun k => by rw [unqE, if_pos hps, if_neg h34, if_neg h92, if_pos h32]) (Ev.now _)⟩
    have hf := dec_fits s p hps
    by_cases hb : (Lib.decodeGo (s.extract p s.size)).1 = 65533 ∧ (Lib.decodeGo (s.extract p s.size)).2 = 1
    · exact ⟨_, Ev.step (fun k => by rw [unqE, if_pos hps, if_neg h34, if_neg h92, if_neg h32, if_pos ⟨hf.2, by omega⟩, if_pos hb]) (Ev.now _)⟩
    · obtain ⟨r, hr⟩ := unqE_any s hs d (p + (Lib.decodeGo (s.extract p s.size)).2) (out ++ s.extract p (p + (Lib.decodeGo (s.extract p s.size)).2)) (by omega) hf.2 (by rw [ByteArray.size_append, ByteArray.size_extract]; omega)
      exact ⟨r, Ev.step (fun k => by rw [unqE, if_pos hps, if_neg h34, if_neg h92, if_neg h32, if_pos ⟨hf.2, by omega⟩, if_neg hb]) hr⟩
end Go.Proofs.YtnkkbiabloodaaaDoor.Pure
namespace Go.Proofs.YtnkkbiabloodaaaDoor.Pure
open Go.RowKit Go.Proofs.YtnkkbiabloodaaaDoor.GUt Go.Proofs.YtnkkbiabloodaaaDoorW.PrintWords Go.Proofs.YtnkkbiabloodaaaDoorW.PrintLast Go.Proofs.YtnkkbiabloodaaaDoorW.PrintMore
set_option linter.unusedVariables false

abbrev Tk := S69
def TokOk (a : Int) (t : ByteArray) (v : Int) : Prop := (0 ≤ a ∧ a ≤ 5 ∧ t = ⟨#[]⟩ ∧ v = 0) ∨ (a = 6 ∧ OkT t ∧ t.size ≤ 4096 ∧ v = 0) ∨ (7 ≤ a ∧ a ≤ 9 ∧ t = ⟨#[]⟩ ∧ v = 0) ∨ (a = 10 ∧ t = ⟨#[]⟩ ∧ -9223372036854775808 ≤ v ∧ v ≤ 9223372036854775807)
theorem sign_rng (c : Int) (h : 0 ≤ signN c) : signN c ≤ 5 := by
  unfold signN
  repeat' split
  all_goals decide
theorem whole_rng (s : ByteArray) (h : (wholeT s).2 = 0) : -9223372036854775808 ≤ (wholeT s).1 ∧ (wholeT s).1 ≤ 9223372036854775807 := by
  have key : ∀ (s : ByteArray) (less : Bool), (wholeN s less (mostN less)).2 = 0 → -9223372036854775808 ≤ (wholeN s less (mostN less)).1 ∧ (wholeN s less (mostN less)).1 ≤ 9223372036854775807 := by
    intro s less h
    unfold wholeN at h ⊢
    by_cases c1 : s.size = 0 ∨ (1 < s.size ∧ bt s 0 = 48)
    · rw [if_pos c1] at h
      exact absurd h (by decide)
    rw [if_neg c1] at h ⊢
    by_cases c2 : digN s s.size 0 = true
    · rw [if_pos c2] at h ⊢
      unfold outN at h ⊢
      by_cases c3 : mostN less < valL s.data.toList 0
      · rw [if_pos c3] at h
        exact absurd h (by decide)
      rw [if_neg c3]
      have ht : mostN true = 9223372036854775808 := rfl
      have hf : mostN false = 9223372036854775807 := rfl
      cases less
      · rw [if_neg Bool.false_ne_true]
        rw [hf] at c3
        constructor <;> simp only [] <;> omega
      · rw [if_pos rfl]
        rw [ht] at c3
        constructor <;> simp only [] <;> omega
    · rw [if_neg c2] at h
      exact absurd h (by decide)
  unfold wholeT at h ⊢
  split at h
  · rename_i q
    rw [if_pos q]
    exact key _ true h
  · rename_i q
    rw [if_neg q]
    exact key _ false h
theorem run_first (s : ByteArray) (num : Bool) (h0 : 0 < s.size) (h : runB (bt s 0) num = true) : 1 ≤ runE s num s.size 0 := by
  obtain ⟨m, hm⟩ : ∃ m, s.size = m + 1 := ⟨s.size - 1, by omega⟩
  rw [hm, runE, if_pos (show runB (bt s ((0 : Nat) : Int)) num = true from h)]
  exact (runE_ge s num m 1).1
theorem word_any (u : ByteArray) (h0 : 0 < u.size) (hs : u.size ≤ 100000000) : ∃ (a : Int) (t : ByteArray) (v z n e : Int), Ev (fun k => jlex_word.f k u) (a, t, v, z, n, e) ∧ (e = 0 → ∃ n' : Nat, n = (n' : Int) ∧ 1 ≤ n' ∧ n' ≤ u.size ∧ t.size ≤ n' ∧ TokOk a t v) := by
  have hz : ¬ u.size = 0 := by omega
  by_cases hsg : 0 ≤ signN (bt u 0)
  · refine ⟨signN (bt u 0), ⟨#[]⟩, 0, 0, 1, 0, Ev.congr (fun k => by rw [jlex_word.f, if_neg hz, if_pos hsg]) (Ev.now _), fun _ => ⟨1, rfl, Nat.le_refl _, h0, Nat.zero_le _, .inl ⟨hsg, sign_rng _ hsg, rfl, rfl⟩⟩⟩
  by_cases h34 : bt u 0 = 34
  · obtain ⟨⟨t, n, e⟩, hr⟩ := unqE_any u hs (u.size - 1) 1 ⟨#[]⟩ (by omega) h0 (Nat.zero_le _)
    have hu : Ev (fun k => utf_Unquote.f k u) (t, n, e) := Ev.congr (fun k => by
      rw [utf_Unquote.f, if_neg (fun q => by
        rcases q with q | q
        · exact hz q
        · exact q h34), if_pos (by omega)]) hr
    refine ⟨6, t, 0, 0, n, e, Ev.congr (fun k => by rw [jlex_word.f, if_neg hz, if_neg hsg, if_pos h34]) (Ev.bind hu (Ev.now _)), fun he => ?_⟩
    subst he
    obtain ⟨K, hK⟩ := Ev.rounds hr
    obtain ⟨b1, b2, n', b3, b4, b5, b6⟩ := unq_ok u K 1 ⟨#[]⟩ t n hK h0 rfl (Nat.le_refl _)
    exact ⟨n', b3, by omega, b5, by omega, .inr (.inl ⟨rfl, b1, b2, rfl⟩)⟩
  by_cases hd : (48 ≤ bt u 0 ∧ bt u 0 ≤ 57) ∨ bt u 0 = 45
  · have hrb : runB (bt u 0) true = true := by
      unfold runB
      rcases hd with q | q
      · rw [decide_eq_true q]; simp
      · rw [q]; simp
    have hr := run_ev u hs true u.size 0 (by omega)
    have hn1 := run_first u true h0 hrb
    have hn2 := (runE_ge u true u.size 0).2
    obtain ⟨n, hn⟩ : ∃ n, runE u true u.size 0 = n := ⟨_, rfl⟩
    rw [hn] at hr hn1 hn2
    have hw := whole_ev (u.extract 0 n) (by rw [ByteArray.size_extract]; omega)
    obtain ⟨v, e, hve⟩ : ∃ v e, wholeT (u.extract 0 n) = (v, e) := ⟨_, _, rfl⟩
    have hrg := whole_rng (u.extract 0 n)
    rw [hve] at hw hrg
    refine ⟨10, ⟨#[]⟩, v, 0, (n : Int), e, ?_, fun he => ⟨n, rfl, hn1, by omega, Nat.zero_le _, .inr (.inr (.inr ⟨rfl, rfl, hrg he⟩))⟩⟩
    have hd2 : decide (48 ≤ bt u 0 ∧ bt u 0 ≤ 57) = true ∨ bt u 0 = 45 := by
      rcases hd with q | q
      · exact .inl (decide_eq_true q)
      · exact .inr q
    refine Ev.congr (f := fun k => (jlex_run.f k u true).bind fun n => if 0 ≤ n ∧ n ≤ (u.size : Int) then (jlex_Whole.f k (u.extract 0 n.toNat)).bind fun v => some (10, ⟨#[]⟩, v.1, 0, n, v.2) else none) (fun k => by rw [jlex_word.f, if_neg hz, if_neg hsg, if_neg h34, dig_is, Option.bind_some, if_pos hd2]) (Ev.bind hr ?_)
    refine Ev.congr (fun k => by rw [if_pos (show 0 ≤ (n : Int) ∧ (n : Int) ≤ (u.size : Int) by omega), Int.toNat_natCast]) (Ev.bind hw (Ev.now _))
  · have hr := run_ev u hs false u.size 0 (by omega)
    have hn2 := (runE_ge u false u.size 0).2
    obtain ⟨n, hn⟩ : ∃ n, runE u false u.size 0 = n := ⟨_, rfl⟩
    rw [hn] at hr hn2
    have hd2 : ¬ (decide (48 ≤ bt u 0 ∧ bt u 0 ≤ 57) = true ∨ bt u 0 = 45) := fun q => hd (by
      rcases q with q | q
      · exact .inl (of_decide_eq_true q)
      · exact .inr q)
    have start : ∀ r, Ev (fun _ : Nat => (if (u.extract 0 n).toList = [110, 117, 108, 108] then some (7, (⟨#[]⟩ : ByteArray), (0 : Int), (0 : Int), (n : Int), (0 : Int)) else if (u.extract 0 n).toList = [116, 114, 117, 101] then some (8, ⟨#[]⟩, 0, 0, (n : Int), 0) else if (u.extract 0 n).toList = [102, 97, 108, 115, 101] then some (9, ⟨#[]⟩, 0, 0, (n : Int), 0) else some (0, ⟨#[]⟩, 0, 0, 0, 6) : Option (Int × ByteArray × Int × Int × Int × Int))) r → Ev (fun k => jlex_word.f k u) r := fun r h =>
      Ev.congr (f := fun k => (jlex_run.f k u false).bind fun n => if 0 ≤ n ∧ n ≤ (u.size : Int) then (if (u.extract 0 n.toNat).toList = [110, 117, 108, 108] then some (7, ⟨#[]⟩, 0, 0, n, 0) else if (u.extract 0 n.toNat).toList = [116, 114, 117, 101] then some (8, ⟨#[]⟩, 0, 0, n, 0) else if (u.extract 0 n.toNat).toList = [102, 97, 108, 115, 101] then some (9, ⟨#[]⟩, 0, 0, n, 0) else some (0, ⟨#[]⟩, 0, 0, 0, 6)) else none) (fun k => by rw [jlex_word.f, if_neg hz, if_neg hsg, if_neg h34, dig_is, Option.bind_some, if_neg hd2]) (Ev.bind hr (Ev.congr (fun k => by rw [if_pos (show 0 ≤ (n : Int) ∧ (n : Int) ≤ (u.size : Int) by omega), Int.toNat_natCast]) h))
    have len : ∀ l : List UInt8, (u.extract 0 n).toList = l → n = l.length := fun l hl => by
      have := congrArg List.length hl
      rw [ByteArray.toList_eq, len_list, ByteArray.size_extract] at this
      omega
    by_cases g7 : (u.extract 0 n).toList = [110, 117, 108, 108]
    · have := len _ g7
      exact ⟨7, ⟨#[]⟩, 0, 0, (n : Int), 0, start _ (Ev.congr (fun _ => if_pos g7) (Ev.now _)), fun _ => ⟨n, rfl, by simp at this; omega, by omega, Nat.zero_le _, .inr (.inr (.inl ⟨by decide, by decide, rfl, rfl⟩))⟩⟩
    by_cases g8 : (u.extract 0 n).toList = [116, 114, 117, 101]
    · have := len _ g8
      exact ⟨8, ⟨#[]⟩, 0, 0, (n : Int), 0, start _ (Ev.congr (fun _ => by rw [if_neg g7, if_pos g8]) (Ev.now _)), fun _ => ⟨n, rfl, by simp at this; omega, by omega, Nat.zero_le _, .inr (.inr (.inl ⟨by decide, by decide, rfl, rfl⟩))⟩⟩
    by_cases g9 : (u.extract 0 n).toList = [102, 97, 108, 115, 101]
    · have := len _ g9
      exact ⟨9, ⟨#[]⟩, 0, 0, (n : Int), 0, start _ (Ev.congr (fun _ => by rw [if_neg g7, if_neg g8, if_pos g9]) (Ev.now _)), fun _ => ⟨n, rfl, by simp at this; omega, by omega, Nat.zero_le _, .inr (.inr (.inl ⟨by decide, by decide, rfl, rfl⟩))⟩⟩
    · exact ⟨0, ⟨#[]⟩, 0, 0, 0, 6, start _ (Ev.congr (fun _ => by rw [if_neg g7, if_neg g8, if_neg g9]) (Ev.now _)), fun h => absurd h (by decide)⟩
/-- Words whose places rise. -/
def Good (sz : Nat) : List Tk → Nat → Prop
  | [], lo => lo ≤ sz
  | x :: M, lo => TokOk x.f0 x.f1 x.f2 ∧ ∃ at_ n : Nat, x.f3 = (at_ : Int) ∧ lo ≤ at_ ∧ 1 ≤ n ∧ x.f1.size ≤ n ∧ at_ + n ≤ sz ∧ Good sz M (at_ + n)
theorem Good.low {sz : Nat} : ∀ {M : List Tk} {lo lo' : Nat}, Good sz M lo → lo' ≤ lo → Good sz M lo'
  | [], _, _, h, hl => Nat.le_trans hl h
  | x :: M, _, _, h, hl => by
    obtain ⟨h1, at_, n, h2, h3, h4⟩ := h
    exact ⟨h1, at_, n, h2, Nat.le_trans hl h3, h4⟩
def endT (s : ByteArray) : Tk := ⟨11, ⟨#[]⟩, 0, (s.size : Int)⟩
theorem lex_any (s : ByteArray) (hs : s.size ≤ 1000000) : ∀ (d at_ : Nat) (out : List Tk), s.size - at_ ≤ d → at_ ≤ s.size → out.length ≤ at_ → ∃ (L : List Tk) (p e : Int), Ev (fun k => jlex_Lex.l0 k s out (at_ : Int)) (L, p, e) ∧ (e ≠ 0 → L = []) ∧ (e = 0 → ∃ M, L = out ++ (M ++ [endT s]) ∧ Good s.size M at_) := by
  have fin : ∀ (at_ : Nat) (out : List Tk), at_ = s.size → out.length ≤ at_ → ∃ (L : List Tk) (p e : Int), Ev (fun k => jlex_Lex.l0 k s out (at_ : Int)) (L, p, e) ∧ (e ≠ 0 → L = []) ∧ (e = 0 → ∃ M, L = out ++ (M ++ [endT s]) ∧ Good s.size M at_) := fun at_ out ha ho =>
    ⟨out ++ [endT s], 0, 0, Ev.step (fun k => by rw [jlex_Lex.l0, if_neg (by omega), if_pos (by omega)]; rfl) (Ev.now _), fun h => absurd rfl h, fun _ => ⟨[], rfl, Nat.le_of_eq ha⟩⟩
  intro d
  induction d with
  | zero =>
    intro at_ out hd ha ho
    exact fin at_ out (by omega) ho
  | succ d ih =>
    intro at_ out hd ha ho
    by_cases h : at_ = s.size
    · exact fin at_ out h ho
    have hx : (s.extract at_ s.size).size = s.size - at_ := by rw [ByteArray.size_extract]; omega
    obtain ⟨a, t, v, z, n, e, hw, hok⟩ := word_any (s.extract at_ s.size) (by omega) (by omega)
    by_cases he : e = 0
    · obtain ⟨n', rfl, n1, n2, n3, n4⟩ := hok he
      clear hok
      subst he
      rw [hx] at n2
      have hwr : wrap64 ((at_ : Int) + (n' : Int)) = ((at_ + n' : Nat) : Int) := by rw [i64_id (by omega) (by omega)]; omega
      have hsk := skip_f s (by omega) (at_ + n') (by omega)
      have hsg := skipB_ge s (s.size - (at_ + n')) (at_ + n')
      obtain ⟨q, hq⟩ : ∃ q, skipB s (s.size - (at_ + n')) (at_ + n') = q := ⟨_, rfl⟩
      rw [hq] at hsk hsg
      obtain ⟨L, p, e2, hL, hL1, hL2⟩ := ih q (out ++ [(⟨a, t, v, (at_ : Int)⟩ : Tk)]) (by omega) (by omega) (by simp; omega)
      refine ⟨L, p, e2, ?_, hL1, fun h2 => ?_⟩
      · refine Ev.step (fun k => by rw [jlex_Lex.l0, if_pos (by omega), if_pos (by omega), if_pos (by omega), Int.toNat_natCast]) (Ev.bind hw ?_)
        refine Ev.congr (f := fun k => (jlex_skip.f k s ((at_ + n' : Nat) : Int)).bind fun t118 => jlex_Lex.l0 k s (out ++ [(⟨a, t, v, (at_ : Int)⟩ : Tk)]) t118) (fun k => by
          simp only []
          rw [if_pos True.intro, if_pos (by omega), hwr]) (Ev.bind hsk hL)
      · obtain ⟨M, hM, hg⟩ := hL2 h2
        refine ⟨(⟨a, t, v, (at_ : Int)⟩ : Tk) :: M, by rw [hM, List.append_assoc]; rfl, n4, at_, n', rfl, Nat.le_refl _, n1, n3, by omega, hg.low hsg.1⟩
    · clear hok
      refine ⟨[], (at_ : Int), e, ?_, fun _ => rfl, fun h2 => absurd h2 he⟩
      refine Ev.step (fun k => by rw [jlex_Lex.l0, if_pos (by omega), if_pos (by omega), if_pos (by omega), Int.toNat_natCast]) (Ev.bind hw ?_)
      exact Ev.congr (fun k => if_neg he) (Ev.now _)
/-! What a word looks like. -/
def signB : List ByteArray := [(⟨#[123]⟩ : ByteArray), (⟨#[125]⟩ : ByteArray), (⟨#[91]⟩ : ByteArray), (⟨#[93]⟩ : ByteArray), (⟨#[58]⟩ : ByteArray), (⟨#[44]⟩ : ByteArray), (⟨#[]⟩ : ByteArray), (⟨#[110, 117, 108, 108]⟩ : ByteArray), (⟨#[116, 114, 117, 101]⟩ : ByteArray), (⟨#[102, 97, 108, 115, 101]⟩ : ByteArray)]
def showT (a : Int) (t : ByteArray) (v : Int) : ByteArray := if a = 6 then strOfNums [34] ++ quoteR t t.size 0 else if a = 10 then decT v else if a = 11 then ⟨#[]⟩ else rdOf ByteArray.empty signB a
theorem show_ev (a : Int) (t : ByteArray) (v p : Int) (h : TokOk a t v ∨ a = 11) : Ev (fun k => bosunlaw07_show.f k a t v p) (showT a t v) := by
  unfold showT
  by_cases h6 : a = 6
  · rw [if_pos h6]
    have ht : t.size ≤ 4096 := by
      rcases h with (h | h | h | h) | h
      · omega
      · exact h.2.2.1
      · omega
      · omega
      · omega
    have hq : Ev (fun k => bosunref06_Quote.f k t) (strOfNums [34] ++ quoteR t t.size 0) := ⟨2 * t.size + 3, fun k hk => ref_quote t (by omega) k (by omega)⟩
    exact Ev.congr (fun k => by rw [bosunlaw07_show.f, if_pos h6]) (Ev.bind hq (Ev.now _))
  rw [if_neg h6]
  by_cases h10 : a = 10
  · rw [if_pos h10]
    have hv : -9223372036854775808 ≤ v ∧ v ≤ 9223372036854775807 := by
      rcases h with (h | h | h | h) | h
      · omega
      · omega
      · omega
      · exact h.2.2
      · omega
    exact Ev.congr (fun k => by rw [bosunlaw07_show.f, if_neg h6, if_pos h10]) (Ev.bind (dec_ev v hv) (Ev.now _))
  rw [if_neg h10]
  by_cases h11 : a = 11
  · rw [if_pos h11]
    exact Ev.congr (fun k => by rw [bosunlaw07_show.f, if_neg h6, if_neg h10, if_pos h11]) (Ev.now _)
  · rw [if_neg h11]
    have hr : 0 ≤ a ∧ a < 10 := by
      rcases h with (h | h | h | h) | h <;> omega
    refine Ev.congr (f := fun _ => some (rdOf ByteArray.empty signB a)) (fun k => ?_) (Ev.now _)
    rw [bosunlaw07_show.f, if_neg h6, if_neg h10, if_neg h11, Option.bind_some, if_pos hr.1, if_pos (by simp only [List.length_cons, List.length_nil]; omega)]
    rfl
end Go.Proofs.YtnkkbiabloodaaaDoor.Pure
namespace Go.Proofs.YtnkkbiabloodaaaDoor.Pure
open Go.RowKit Go.Proofs.YtnkkbiabloodaaaDoor.GUt Go.Proofs.YtnkkbiabloodaaaDoorW.PrintWords Go.Proofs.YtnkkbiabloodaaaDoorW.PrintLast Go.Proofs.YtnkkbiabloodaaaDoorW.PrintMore
set_option linter.unusedVariables false

def sp : ByteArray := ⟨#[32]⟩
theorem bt_mid (a b : ByteArray) (j : Nat) (h : j < a.size) : bt (a ++ (sp ++ b)) (j : Int) = bt a (j : Int) := bt_left a (sp ++ b) j h
theorem bt_sp (a b : ByteArray) : bt (a ++ (sp ++ b)) ((a.size : Nat) : Int) = 32 := by
  have := bt_right a (sp ++ b) 0
  rw [Nat.add_zero] at this
  rw [this, bt_left sp b 0 (by decide)]
  rfl
theorem run_stop (a b : ByteArray) (num : Bool) (h : ∀ j : Nat, j < a.size → runB (bt a (j : Int)) num = true) : ∀ m i, i ≤ a.size → a.size < i + m → runE (a ++ (sp ++ b)) num m i = a.size
  | 0, i, h1, h2 => by omega
  | m + 1, i, h1, h2 => by
    rw [runE]
    by_cases q : i < a.size
    · rw [bt_mid a b i q, if_pos (h i q)]
      exact run_stop a b num h m (i + 1) q (by omega)
    · obtain rfl : i = a.size := by omega
      rw [bt_sp, if_neg (by cases num <;> decide)]
theorem ext_pre0 (a b : ByteArray) : (a ++ b).extract 0 a.size = a := by
  apply ByteArray.ext
  apply Array.ext'
  rw [ByteArray.data_extract, Array.toList_extract]
  show (((a ++ b).data.toList.drop 0).take (a.size - 0)) = _
  have : (a ++ b).data.toList = a.data.toList ++ b.data.toList := by simp
  rw [this, List.drop_zero, List.take_left' (by rw [len_list]; rfl)]
theorem ext_suf (a b : ByteArray) : (a ++ b).extract a.size (a ++ b).size = b := by
  apply ByteArray.ext
  apply Array.ext'
  rw [ByteArray.data_extract, Array.toList_extract]
  show (((a ++ b).data.toList.drop a.size).take ((a ++ b).size - a.size)) = _
  have : (a ++ b).data.toList = a.data.toList ++ b.data.toList := by simp
  rw [this, List.drop_left' (by rw [len_list]), List.take_of_length_le (by rw [len_list, ByteArray.size_append]; omega)]
/-- A word's text is not empty, and does not begin with a blank. -/
theorem show_first (a : Int) (t : ByteArray) (v : Int) (h : TokOk a t v) : 0 < (showT a t v).size ∧ ¬ blank (bt (showT a t v) 0) := by
  unfold showT blank
  have q0 : ∀ x : ByteArray, bt (strOfNums [34] ++ x) 0 = 34 := fun x => by
    have := bt_left (strOfNums [34]) x 0 (by rw [nums_len]; decide)
    exact this.trans rfl
  by_cases h6 : a = 6
  · rw [if_pos h6, q0, ByteArray.size_append, nums_len]
    exact ⟨by simp; omega, by omega⟩
  rw [if_neg h6]
  by_cases h10 : a = 10
  · rw [if_pos h10]
    have hz := dec_size v
    have hb := dec_bytes v 0 (by omega)
    have hb' : (48 ≤ bt (decT v) 0 ∧ bt (decT v) 0 ≤ 57) ∨ (bt (decT v) 0 = 45 ∧ 0 = 0) := hb
    exact ⟨by omega, by omega⟩
  rw [if_neg h10]
  have c : a = 0 ∨ a = 1 ∨ a = 2 ∨ a = 3 ∨ a = 4 ∨ a = 5 ∨ a = 7 ∨ a = 8 ∨ a = 9 := by
    rcases h with h | h | h | h <;> omega
  rcases c with rfl | rfl | rfl | rfl | rfl | rfl | rfl | rfl | rfl <;> exact ⟨by decide, by decide⟩
theorem word_show (a : Int) (t : ByteArray) (v : Int) (h : TokOk a t v) (b : ByteArray) (hb : b.size ≤ 500000) : Ev (fun k => jlex_word.f k (showT a t v ++ (sp ++ b))) (a, t, v, 0, ((showT a t v).size : Int), 0) := by
  have hsb : (sp ++ b).size = 1 + b.size := by rw [ByteArray.size_append]; rfl
  have signs : ∀ (c : Int) (x : ByteArray), x.size = 1 → bt x 0 = c → 0 ≤ signN c → Ev (fun k => jlex_word.f k (x ++ (sp ++ b))) (signN c, ⟨#[]⟩, 0, 0, 1, 0) := by
    intro c x hx hc hs
    have e : bt (x ++ (sp ++ b)) 0 = c := by
      have := bt_mid x b 0 (by omega)
      exact this.trans hc
    exact Ev.congr (fun k => by rw [jlex_word.f, if_neg (by rw [ByteArray.size_append]; omega), e, if_pos hs]) (Ev.now _)
  have words : ∀ (x : ByteArray) (c : Int), bt x 0 = c → 0 < x.size → x.size ≤ 10 → (∀ j : Nat, j < x.size → runB (bt x (j : Int)) false = true) → signN c < 0 → c ≠ 34 → ¬ (48 ≤ c ∧ c ≤ 57) → c ≠ 45 → ∀ r, (∀ n : Int, n = (x.size : Int) → (if x.toList = [110, 117, 108, 108] then some (7, (⟨#[]⟩ : ByteArray), (0 : Int), (0 : Int), n, (0 : Int)) else if x.toList = [116, 114, 117, 101] then some (8, ⟨#[]⟩, 0, 0, n, 0) else if x.toList = [102, 97, 108, 115, 101] then some (9, ⟨#[]⟩, 0, 0, n, 0) else some (0, ⟨#[]⟩, 0, 0, 0, 6) : Option (Int × ByteArray × Int × Int × Int × Int)) = some r) → Ev (fun k => jlex_word.f k (x ++ (sp ++ b))) r := by
    intro x c hc h0 h10 hrun hs h34 hd h45 r hr
    have e : bt (x ++ (sp ++ b)) 0 = c := by
      have := bt_mid x b 0 h0
      exact this.trans hc
    have hz : (x ++ (sp ++ b)).size = x.size + (1 + b.size) := by rw [ByteArray.size_append, hsb]
    have hst := run_stop x b false hrun (x ++ (sp ++ b)).size 0 (by omega) (by omega)
    have hre := run_ev (x ++ (sp ++ b)) (by omega) false (x ++ (sp ++ b)).size 0 (by omega)
    rw [hst] at hre
    refine Ev.congr (f := fun k => (jlex_run.f k (x ++ (sp ++ b)) false).bind fun n => if 0 ≤ n ∧ n ≤ ((x ++ (sp ++ b)).size : Int) then (if ((x ++ (sp ++ b)).extract 0 n.toNat).toList = [110, 117, 108, 108] then some (7, ⟨#[]⟩, 0, 0, n, 0) else if ((x ++ (sp ++ b)).extract 0 n.toNat).toList = [116, 114, 117, 101] then some (8, ⟨#[]⟩, 0, 0, n, 0) else if ((x ++ (sp ++ b)).extract 0 n.toNat).toList = [102, 97, 108, 115, 101] then some (9, ⟨#[]⟩, 0, 0, n, 0) else some (0, ⟨#[]⟩, 0, 0, 0, 6)) else none) (fun k => ?_) (Ev.bind hre ?_)
    · rw [jlex_word.f, if_neg (by omega), e, if_neg (by omega), if_neg h34, dig_is, decide_eq_false hd, Option.bind_some, if_neg (fun q => by
        rcases q with q | q
        · cases q
        · exact h45 q)]
    · refine Ev.congr (fun k => ?_) (Ev.now r)
      rw [if_pos (by omega), Int.toNat_natCast, ext_pre0]
      exact hr _ rfl
  rcases h with ⟨a0, a5, rfl, rfl⟩ | ⟨rfl, ht, hz, rfl⟩ | ⟨a7, a9, rfl, rfl⟩ | ⟨rfl, rfl, hv⟩
  · have c : a = 0 ∨ a = 1 ∨ a = 2 ∨ a = 3 ∨ a = 4 ∨ a = 5 := by omega
    rcases c with rfl | rfl | rfl | rfl | rfl | rfl
    · exact signs 123 ⟨#[123]⟩ rfl (by decide) (by decide)
    · exact signs 125 ⟨#[125]⟩ rfl (by decide) (by decide)
    · exact signs 91 ⟨#[91]⟩ rfl (by decide) (by decide)
    · exact signs 93 ⟨#[93]⟩ rfl (by decide) (by decide)
    · exact signs 58 ⟨#[58]⟩ rfl (by decide) (by decide)
    · exact signs 44 ⟨#[44]⟩ rfl (by decide) (by decide)
  · have hq := quote_size t t.size 0
    obtain ⟨Q, hQ⟩ : ∃ Q, strOfNums [34] ++ quoteR t t.size 0 = Q := ⟨_, rfl⟩
    have hs : showT 6 t 0 = Q := by rw [← hQ]; unfold showT; rw [if_pos rfl]
    have hQz : Q.size ≤ 30000 := by rw [← hQ, ByteArray.size_append, nums_len]; simp; omega
    have hQ1 : 1 ≤ Q.size := by rw [← hQ, ByteArray.size_append, nums_len]; simp
    rw [hs]
    have hall : (Q ++ (sp ++ b)).size = Q.size + (1 + b.size) := by rw [ByteArray.size_append, hsb]
    have e0 : bt (Q ++ (sp ++ b)) 0 = 34 := by
      rw [← hQ, ByteArray.append_assoc]
      have := bt_left (strOfNums [34]) (quoteR t t.size 0 ++ (sp ++ b)) 0 (by rw [nums_len]; decide)
      exact this.trans rfl
    have hl := unq_loop t (sp ++ b) (Q ++ (sp ++ b)) (by omega) (by omega) t.size 0 100000 (strOfNums [34]) (by omega) (by omega) ht (by rw [← hQ, ByteArray.append_assoc, Nat.sub_zero]) (by omega)
    have ee : t.extract 0 0 = ⟨#[]⟩ := by
      apply ByteArray.ext
      rw [ByteArray.data_extract]
      simp
    rw [ee, show (strOfNums [34]).size = 1 from nums_len [34], show (Q ++ (sp ++ b)).size - (sp ++ b).size = Q.size by rw [hall, hsb]; omega] at hl
    have hE := unqL_E _ _ _ _ _ hl
    have ha : ansQ t Q.size = (t, (Q.size : Int), 0) := by unfold ansQ; rw [if_neg (by omega)]
    rw [ha] at hE
    have hu : utf_Unquote.f 100000 (Q ++ (sp ++ b)) = some (t, (Q.size : Int), 0) := by
      rw [utf_Unquote.f, if_neg (fun q => by
        rcases q with q | q
        · omega
        · exact q e0), if_pos (by omega)]
      exact hE
    have hev : Ev (fun k => utf_Unquote.f k (Q ++ (sp ++ b))) (t, (Q.size : Int), 0) := Ev.of (fun k => utf_Unquote.mono _ k) hu
    exact Ev.congr (fun k => by rw [jlex_word.f, if_neg (by omega), e0, if_neg (by decide), if_pos rfl]) (Ev.bind hev (Ev.now _))
  · have c : a = 7 ∨ a = 8 ∨ a = 9 := by omega
    have l7 : (⟨#[110, 117, 108, 108]⟩ : ByteArray).toList = [110, 117, 108, 108] := by rw [ByteArray.toList_eq]
    have l8 : (⟨#[116, 114, 117, 101]⟩ : ByteArray).toList = [116, 114, 117, 101] := by rw [ByteArray.toList_eq]
    have l9 : (⟨#[102, 97, 108, 115, 101]⟩ : ByteArray).toList = [102, 97, 108, 115, 101] := by rw [ByteArray.toList_eq]
    rcases c with rfl | rfl | rfl
    · have hr : ∀ j : Fin 4, runB (bt (⟨#[110, 117, 108, 108]⟩ : ByteArray) ((j.val : Nat) : Int)) false = true := by decide
      exact words ⟨#[110, 117, 108, 108]⟩ 110 (by decide) (by decide) (by decide) (fun j hj => hr ⟨j, hj⟩) (by decide) (by decide) (by decide) (by decide) _ (fun n hn => by rw [l7, if_pos rfl, hn]; rfl)
    · have hr : ∀ j : Fin 4, runB (bt (⟨#[116, 114, 117, 101]⟩ : ByteArray) ((j.val : Nat) : Int)) false = true := by decide
      exact words ⟨#[116, 114, 117, 101]⟩ 116 (by decide) (by decide) (by decide) (fun j hj => hr ⟨j, hj⟩) (by decide) (by decide) (by decide) (by decide) _ (fun n hn => by rw [l8, if_neg (by decide), if_pos rfl, hn]; rfl)
    · have hr : ∀ j : Fin 5, runB (bt (⟨#[102, 97, 108, 115, 101]⟩ : ByteArray) ((j.val : Nat) : Int)) false = true := by decide
      exact words ⟨#[102, 97, 108, 115, 101]⟩ 102 (by decide) (by decide) (by decide) (fun j hj => hr ⟨j, hj⟩) (by decide) (by decide) (by decide) (by decide) _ (fun n hn => by rw [l9, if_neg (by decide), if_neg (by decide), if_pos rfl, hn]; rfl)
  · have hs : showT 10 ⟨#[]⟩ v = decT v := by unfold showT; rw [if_neg (by decide), if_pos rfl]
    have hz := dec_size v
    have hb := dec_bytes v
    have hwd := whole_dec v hv
    rw [hs]
    obtain ⟨D, hD⟩ : ∃ D, decT v = D := ⟨_, rfl⟩
    rw [hD] at hz hb hwd ⊢
    have hall : (D ++ (sp ++ b)).size = D.size + (1 + b.size) := by rw [ByteArray.size_append, hsb]
    have e : bt (D ++ (sp ++ b)) 0 = bt D 0 := bt_mid D b 0 (by omega)
    have hb0 : (48 ≤ bt D 0 ∧ bt D 0 ≤ 57) ∨ (bt D 0 = 45 ∧ 0 = 0) := hb 0 (by omega)
    have hrun : ∀ j : Nat, j < D.size → runB (bt D (j : Int)) true = true := fun j hj => by
      unfold runB
      rcases hb j hj with q | q
      · rw [decide_eq_true q]; simp
      · rw [q.1]; simp
    have hst := run_stop D b true hrun (D ++ (sp ++ b)).size 0 (by omega) (by omega)
    have hre := run_ev (D ++ (sp ++ b)) (by omega) true (D ++ (sp ++ b)).size 0 (by omega)
    rw [hst] at hre
    have hw := whole_ev D (by omega)
    rw [hwd] at hw
    have hsn : ¬ 0 ≤ signN (bt D 0) := by
      unfold signN
      repeat' split
      all_goals omega
    have hd2 : decide (48 ≤ bt D 0 ∧ bt D 0 ≤ 57) = true ∨ bt D 0 = 45 := by
      rcases hb0 with q | q
      · exact .inl (decide_eq_true q)
      · exact .inr q.1
    refine Ev.congr (f := fun k => (jlex_run.f k (D ++ (sp ++ b)) true).bind fun n => if 0 ≤ n ∧ n ≤ ((D ++ (sp ++ b)).size : Int) then (jlex_Whole.f k ((D ++ (sp ++ b)).extract 0 n.toNat)).bind fun v => some (10, ⟨#[]⟩, v.1, 0, n, v.2) else none) (fun k => by rw [jlex_word.f, if_neg (by omega), e, if_neg hsn, if_neg (by omega), dig_is, Option.bind_some, if_pos hd2]) (Ev.bind hre ?_)
    exact Ev.congr (fun k => by rw [if_pos (by omega), Int.toNat_natCast, ext_pre0]) (Ev.bind hw (Ev.now _))
end Go.Proofs.YtnkkbiabloodaaaDoor.Pure
