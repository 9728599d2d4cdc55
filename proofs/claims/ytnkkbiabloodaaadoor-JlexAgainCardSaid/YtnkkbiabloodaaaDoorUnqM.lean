/- What Unquote reads is valid UTF-8, and no longer than what it was read of; where Unquote was told right, it is told so here. Plain lemmas. What Unquote reads, further: unicode and escapes; a quoted text is read as it was. Plain lemmas. No conditions beside those stated. -/
import Derived.Test.YtnkkbiabloodaaaDoorUtChar
import Derived.Test.YtnkkbiabloodaaaDoorGUtQuote
namespace Go.Proofs.YtnkkbiabloodaaaDoor.Pure
open Go.RowKit Go.Proofs.YtnkkbiabloodaaaDoor.GUt Go.Proofs.YtnkkbiabloodaaaDoorW.PrintWords Go.Proofs.YtnkkbiabloodaaaDoorW.PrintLast Go.Proofs.YtnkkbiabloodaaaDoorW.PrintMore

theorem bt_right (a b : ByteArray) (j : Nat) : bt (a ++ b) ((a.size + j : Nat) : Int) = bt b (j : Int) := by
  unfold bt
  by_cases h : j < b.size
  · rw [dif_pos (show ((a.size + j : Nat) : Int).toNat < (a ++ b).size by rw [ByteArray.size_append]; omega), dif_pos (show ((j : Nat) : Int).toNat < b.size by omega)]
    have e : ∀ (x : Nat) (hx : x < (a ++ b).size) (y : Nat) (hy : y < b.size), x = a.size + y → (a ++ b)[x]'hx = b[y]'hy := by
      intro x hx y hy hxy
      subst hxy
      rw [ByteArray.getElem_append_right (a := a) (b := b) (i := a.size + y) (h := hx) (Nat.le_add_right _ _)]
      simp
    exact congrArg (fun c : UInt8 => (c.toNat : Int)) (e _ (by rw [ByteArray.size_append]; omega) _ (by omega) (by omega))
  · rw [dif_neg (by rw [ByteArray.size_append]; omega), dif_neg (by omega)]
theorem bt_left (a b : ByteArray) (j : Nat) (h : j < a.size) : bt (a ++ b) (j : Int) = bt a (j : Int) := by
  unfold bt
  rw [dif_pos (show ((j : Nat) : Int).toNat < (a ++ b).size by rw [ByteArray.size_append]; omega), dif_pos (show ((j : Nat) : Int).toNat < a.size by omega)]
  rw [ByteArray.getElem_append_left]
theorem bt_nums (xs : List Int) (j : Nat) (h : j < xs.length) (hx : ∀ x ∈ xs, 0 ≤ x ∧ x < 256) : bt (strOfNums xs) (j : Int) = xs[j] := by
  have hm := hx _ (List.getElem_mem h)
  have hs := nums_len xs
  unfold bt
  rw [dif_pos (by omega)]
  show (((strOfNums xs).data[((j : Nat) : Int).toNat]'_).toNat : Int) = _
  simp only [strOfNums, Int.toNat_natCast]
  simp
  omega
theorem charN_eq (s t : ByteArray) (i p w : Nat) (hw : charN s i = w) (h2 : 2 ≤ w) (hp : p + w ≤ t.size) (hb : ∀ j, j < w → bt t ((p + j : Nat) : Int) = bt s ((i + j : Nat) : Int)) : charN t p = w := by
  have e0 : bt t (p : Int) = bt s (i : Int) := hb 0 (by omega)
  have e1 : bt t ((p + 1 : Nat) : Int) = bt s ((i + 1 : Nat) : Int) := hb 1 (by omega)
  have ok : ∀ j lo hi, j < w → okB s (i + j) lo hi = true → okB t (p + j) lo hi = true := by
    intro j lo hi hj h
    unfold okB at h ⊢
    simp only [Bool.and_eq_true, decide_eq_true_eq] at h ⊢
    rw [hb j hj]
    exact ⟨by omega, h.2⟩
  unfold charN at hw ⊢
  rw [e0]
  by_cases a1 : bt s i < 128
  · rw [if_pos a1] at hw; omega
  rw [if_neg a1] at hw ⊢
  by_cases a2 : 194 ≤ bt s i ∧ bt s i ≤ 223
  · rw [if_pos a2] at hw ⊢
    by_cases c : okB s (i + 1) 128 191 = true
    · rw [if_pos c] at hw
      rw [if_pos (ok 1 _ _ (by omega) c)]
      exact hw
    · rw [if_neg c] at hw; omega
  rw [if_neg a2] at hw ⊢
  by_cases a3 : 224 ≤ bt s i ∧ bt s i ≤ 239
  · rw [if_pos a3] at hw ⊢
    by_cases c : okB s (i + 1) (if bt s i = 224 then 160 else 128) (if bt s i = 237 then 159 else 191) = true ∧ okB s (i + 2) 128 191 = true
    · rw [if_pos c] at hw
      rw [if_pos ⟨ok 1 _ _ (by omega) c.1, ok 2 _ _ (by omega) c.2⟩]
      exact hw
    · rw [if_neg c] at hw; omega
  rw [if_neg a3] at hw ⊢
  by_cases a4 : 240 ≤ bt s i ∧ bt s i ≤ 244
  · rw [if_pos a4] at hw ⊢
    by_cases c : okB s (i + 1) (if bt s i = 240 then 144 else 128) (if bt s i = 244 then 143 else 191) = true ∧ okB s (i + 2) 128 191 = true ∧ okB s (i + 3) 128 191 = true
    · rw [if_pos c] at hw
      rw [if_pos ⟨ok 1 _ _ (by omega) c.1, ok 2 _ _ (by omega) c.2.1, ok 3 _ _ (by omega) c.2.2⟩]
      exact hw
    · rw [if_neg c] at hw; omega
  rw [if_neg a4] at hw
  omega
theorem charN_low (s : ByteArray) (i : Nat) : charN s i = 1 ↔ bt s (i : Int) < 128 := by
  unfold charN
  by_cases h : bt s i < 128
  · rw [if_pos h]
    exact ⟨fun _ => h, fun _ => rfl⟩
  · rw [if_neg h]
    constructor
    · intro q
      repeat' split at q
      all_goals omega
    · intro q
      exact absurd q h
theorem charN_same (s t : ByteArray) (i p w : Nat) (hw : charN s i = w) (h1 : 1 ≤ w) (hp : p + w ≤ t.size) (hb : ∀ j, j < w → bt t ((p + j : Nat) : Int) = bt s ((i + j : Nat) : Int)) : charN t p = w := by
  rcases Nat.lt_or_ge 1 w with h2 | h2
  · exact charN_eq s t i p w hw h2 hp hb
  · obtain rfl : w = 1 := by omega
    have := hb 0 (by omega)
    rw [Nat.add_zero, Nat.add_zero] at this
    exact (charN_low t p).2 (by rw [this]; exact (charN_low s i).1 hw)
theorem chain_end (s : ByteArray) : ∀ n i, s.size ≤ i → chain s n i = true
  | 0, _, _ => rfl
  | n + 1, i, h => by rw [chain, if_neg (by omega)]
theorem charN_cat (a b : ByteArray) (h : charN b 0 = b.size) (h1 : 1 ≤ b.size) : charN (a ++ b) a.size = b.size :=
  charN_same b (a ++ b) 0 a.size b.size h h1 (by rw [ByteArray.size_append]; omega) (fun j hj => by rw [bt_right, Nat.zero_add])
theorem charN_pre (a b : ByteArray) (i : Nat) (hi : i < a.size) (h : charN a i ≠ 0) : charN (a ++ b) i = charN a i := by
  have hf := charN_fit a i hi
  exact charN_same a (a ++ b) i i (charN a i) rfl (by omega) (by rw [ByteArray.size_append]; omega) (fun j hj => bt_left a b _ (by omega))
theorem chain_more (a b : ByteArray) (hb : charN b 0 = b.size) (h1 : 1 ≤ b.size) : ∀ n i, i ≤ a.size → a.size - i ≤ n → chain a n i = true → chain (a ++ b) (n + b.size) i = true := by
  have last : ∀ m, chain (a ++ b) (m + 1) a.size = true := fun m => by
    rw [chain, if_pos (by rw [ByteArray.size_append]; omega), charN_cat a b hb h1, if_neg (by omega)]
    exact chain_end _ _ _ (by rw [ByteArray.size_append]; omega)
  intro n
  induction n with
  | zero =>
    intro i hi hn _
    obtain rfl : i = a.size := by omega
    obtain ⟨m, hm⟩ : ∃ m, 0 + b.size = m + 1 := ⟨b.size - 1, by omega⟩
    rw [hm]
    exact last m
  | succ n ih =>
    intro i hi hn hc
    by_cases h : i < a.size
    · rw [chain, if_pos h] at hc
      have h0 : charN a i ≠ 0 := fun q => by rw [if_pos q] at hc; cases hc
      rw [if_neg h0] at hc
      have hf := charN_fit a i h
      rw [show n + 1 + b.size = (n + b.size) + 1 by omega, chain, if_pos (by rw [ByteArray.size_append]; omega), charN_pre a b i h h0, if_neg h0]
      exact ih _ hf.1 (by omega) hc
    · obtain rfl : i = a.size := by omega
      rw [show n + 1 + b.size = (n + b.size) + 1 by omega]
      exact last _
/-- Valid UTF-8. -/
def OkT (a : ByteArray) : Prop := chain a a.size 0 = true
theorem OkT.more {a b : ByteArray} (h : OkT a) (hb : charN b 0 = b.size) (h1 : 1 ≤ b.size) : OkT (a ++ b) := by
  unfold OkT
  rw [ByteArray.size_append]
  exact chain_more a b hb h1 a.size 0 (by omega) (by omega) h
theorem char_one (c : Int) (h0 : 0 ≤ c) (h1 : c < 128) : charN (strOfNums [c]) 0 = (strOfNums [c]).size := by
  have hb := bt_nums [c] 0 (by simp) (fun x hx => by simp only [List.mem_singleton] at hx; omega)
  rw [nums_len]
  exact (charN_low _ 0).2 (by rw [hb]; exact h1)
/-- A character's bytes are one. -/
theorem char_rune (v : Int) (h0 : 0 ≤ v) (h1 : v ≤ 1114111) (h2 : v < 55296 ∨ 57343 < v) : charN (runeB v) 0 = (runeB v).size ∧ 1 ≤ (runeB v).size ∧ (runeB v).size ≤ 4 := by
  have bd := enc_bd v
  unfold runeB
  rw [nums_len]
  obtain ⟨xs, hxs⟩ : ∃ xs, Lib.encodeRuneZ v = xs := ⟨_, rfl⟩
  rw [hxs] at bd ⊢
  have at_ := fun j h => bt_nums xs j h bd
  have sz := nums_len xs
  unfold Lib.encodeRuneZ at hxs
  by_cases a1 : 0 ≤ v ∧ v ≤ 127
  · rw [if_pos a1] at hxs
    subst hxs
    have b0 := at_ 0 (by simp)
    refine ⟨(charN_low _ 0).2 (by rw [b0]; simp; omega), by simp, by simp⟩
  rw [if_neg a1] at hxs
  by_cases a2 : 128 ≤ v ∧ v ≤ 2047
  · rw [if_pos a2] at hxs
    subst hxs
    have b0 : bt (strOfNums [192 + v / 64, 128 + v % 64]) ((0 : Nat) : Int) = 192 + v / 64 := at_ 0 (by simp)
    have b1 : bt (strOfNums [192 + v / 64, 128 + v % 64]) ((1 : Nat) : Int) = 128 + v % 64 := at_ 1 (by simp)
    refine ⟨?_, by simp, by simp⟩
    unfold charN okB
    rw [b0, show (0 + 1 : Nat) = 1 from rfl, b1, sz]
    rw [if_neg (by omega), if_pos (by omega), if_pos (by simp only [List.length_cons, List.length_nil, Bool.and_eq_true, decide_eq_true_eq]; omega)]
    rfl
  rw [if_neg a2] at hxs
  by_cases a3 : (2048 ≤ v ∧ v < 55296) ∨ (57343 < v ∧ v ≤ 65535)
  · rw [if_pos a3] at hxs
    subst hxs
    have b0 : bt (strOfNums [224 + v / 4096, 128 + v / 64 % 64, 128 + v % 64]) ((0 : Nat) : Int) = 224 + v / 4096 := at_ 0 (by simp)
    have b1 : bt (strOfNums [224 + v / 4096, 128 + v / 64 % 64, 128 + v % 64]) ((1 : Nat) : Int) = 128 + v / 64 % 64 := at_ 1 (by simp)
    have b2 : bt (strOfNums [224 + v / 4096, 128 + v / 64 % 64, 128 + v % 64]) ((2 : Nat) : Int) = 128 + v % 64 := at_ 2 (by simp)
    refine ⟨?_, by simp, by simp⟩
    unfold charN okB
    rw [b0, show (0 + 1 : Nat) = 1 from rfl, show (0 + 2 : Nat) = 2 from rfl, b1, b2, sz]
    have l1 : (if 224 + v / 4096 = 224 then (160 : Int) else 128) ≤ 128 + v / 64 % 64 := by split <;> omega
    have l2 : 128 + v / 64 % 64 ≤ (if 224 + v / 4096 = 237 then (159 : Int) else 191) := by split <;> omega
    rw [if_neg (by omega), if_neg (by omega), if_pos (by omega), if_pos ⟨by simp only [List.length_cons, List.length_nil, Bool.and_eq_true, decide_eq_true_eq]; exact ⟨by omega, l1, l2⟩, by simp only [List.length_cons, List.length_nil, Bool.and_eq_true, decide_eq_true_eq]; omega⟩]
    rfl
  rw [if_neg a3] at hxs
  have a4 : 65536 ≤ v ∧ v ≤ 1114111 := by omega
  rw [if_pos a4] at hxs
  subst hxs
  have b0 : bt (strOfNums [240 + v / 262144, 128 + v / 4096 % 64, 128 + v / 64 % 64, 128 + v % 64]) ((0 : Nat) : Int) = 240 + v / 262144 := at_ 0 (by simp)
  have b1 : bt (strOfNums [240 + v / 262144, 128 + v / 4096 % 64, 128 + v / 64 % 64, 128 + v % 64]) ((1 : Nat) : Int) = 128 + v / 4096 % 64 := at_ 1 (by simp)
  have b2 : bt (strOfNums [240 + v / 262144, 128 + v / 4096 % 64, 128 + v / 64 % 64, 128 + v % 64]) ((2 : Nat) : Int) = 128 + v / 64 % 64 := at_ 2 (by simp)
  have b3 : bt (strOfNums [240 + v / 262144, 128 + v / 4096 % 64, 128 + v / 64 % 64, 128 + v % 64]) ((3 : Nat) : Int) = 128 + v % 64 := at_ 3 (by simp)
  refine ⟨?_, by simp, by simp⟩
  unfold charN okB
  rw [b0, show (0 + 1 : Nat) = 1 from rfl, show (0 + 2 : Nat) = 2 from rfl, show (0 + 3 : Nat) = 3 from rfl, b1, b2, b3, sz]
  have l1 : (if 240 + v / 262144 = 240 then (144 : Int) else 128) ≤ 128 + v / 4096 % 64 := by split <;> omega
  have l2 : 128 + v / 4096 % 64 ≤ (if 240 + v / 262144 = 244 then (143 : Int) else 191) := by split <;> omega
  rw [if_neg (by omega), if_neg (by omega), if_neg (by omega), if_pos (by omega), if_pos ⟨by simp only [List.length_cons, List.length_nil, Bool.and_eq_true, decide_eq_true_eq]; exact ⟨by omega, l1, l2⟩, by simp only [List.length_cons, List.length_nil, Bool.and_eq_true, decide_eq_true_eq]; omega, by simp only [List.length_cons, List.length_nil, Bool.and_eq_true, decide_eq_true_eq]; omega⟩]
  rfl
theorem index_lt (b d : Int) (h : strings_IndexByte.f digT b = some d) : d < 16 := by
  injection h with h
  by_cases h0 : d < 0
  · omega
  · obtain ⟨o, rfl⟩ := Int.eq_ofNat_of_zero_le (show 0 ≤ d by omega)
    have := (List.getElem?_eq_some_iff.1 (Lib.indexByte_some h).1).1
    have hl : digT.data.toList.length = 16 := by decide
    omega
theorem hexE_pos (s : ByteArray) : ∀ (n p : Nat) (v r : Int), 0 ≤ v → v * 16 ^ n + (16 ^ n - 1) ≤ 65535 → n ≤ 4 → hexE s n p v = some (r, 0) → 0 ≤ r ∧ r ≤ 65535
  | 0, p, v, r, h0, h1, _, h => by
    rw [hexE] at h
    injection h with h
    injection h with h _
    subst h
    simp at h1
    exact ⟨h0, by omega⟩
  | n + 1, p, v, r, h0, h1, hn, h => by
    rw [hexE] at h
    by_cases hs : p < s.size
    · rw [if_pos hs] at h
      obtain ⟨b, hb, h⟩ := Option.bind_eq_some_iff.1 h
      obtain ⟨d, hd, h⟩ := Option.bind_eq_some_iff.1 h
      have hd16 := index_lt b d hd
      by_cases hd0 : d < 0
      · rw [if_pos hd0] at h
        simp at h
      · rw [if_neg hd0] at h
        have hv : v ≤ 65535 := by
          have : (0 : Int) < 16 ^ (n + 1) := by exact Int.pow_pos (by decide)
          have h3 : v * 1 ≤ v * 16 ^ (n + 1) := Int.mul_le_mul_of_nonneg_left (by omega) h0
          omega
        have w1 : wrap32 (16 * v) = 16 * v := by unfold wrap32; omega
        have w2 : wrap32 d = d := by unfold wrap32; omega
        have w3 : wrap32 (16 * v + d) = 16 * v + d := by unfold wrap32; omega
        rw [w1, w2, w3] at h
        refine hexE_pos s n (p + 1) _ r (by omega) ?_ (by omega) h
        have e : ((16 : Int) ^ (n + 1)) = 16 * 16 ^ n := by rw [Int.pow_succ]; omega
        rw [e] at h1
        have hP : (0 : Int) < 16 ^ n := Int.pow_pos (by decide)
        obtain ⟨P, hPe⟩ : ∃ P : Int, 16 ^ n = P := ⟨_, rfl⟩
        rw [hPe] at h1 hP ⊢
        have m1 : v * (16 * P) = 16 * v * P := by rw [← Int.mul_assoc, Int.mul_comm v 16]
        have m2 : (16 * v + d) * P = 16 * v * P + d * P := Int.add_mul _ _ _
        have m3 : d * P ≤ 15 * P := Int.mul_le_mul_of_nonneg_right (by omega) (by omega)
        omega
    · rw [if_neg hs] at h
      simp at h
end Go.Proofs.YtnkkbiabloodaaaDoor.Pure
namespace Go.Proofs.YtnkkbiabloodaaaDoor.Pure
open Go.RowKit Go.Proofs.YtnkkbiabloodaaaDoor.GUt Go.Proofs.YtnkkbiabloodaaaDoorW.PrintWords Go.Proofs.YtnkkbiabloodaaaDoorW.PrintLast Go.Proofs.YtnkkbiabloodaaaDoorW.PrintMore
set_option linter.unusedVariables false

theorem low_is (x : Int) (b : Bool) (h : utf_low.f x = some b) : b = true ↔ 56320 ≤ x ∧ x ≤ 57343 := by
  unfold utf_low.f at h
  by_cases c : x ≥ 56320
  · rw [if_pos c] at h
    rw [← Option.some.inj h, decide_eq_true_iff]
    omega
  · rw [if_neg c] at h
    rw [← Option.some.inj h]
    exact ⟨fun q => (by cases q), fun q => by omega⟩
theorem high_is (x : Int) (b : Bool) (h : utf_high.f x = some b) : b = true ↔ 55296 ≤ x ∧ x ≤ 56319 := by
  unfold utf_high.f at h
  by_cases c : x ≥ 55296
  · rw [if_pos c] at h
    rw [← Option.some.inj h, decide_eq_true_iff]
    omega
  · rw [if_neg c] at h
    rw [← Option.some.inj h]
    exact ⟨fun q => (by cases q), fun q => by omega⟩
theorem w32_id {x : Int} (h0 : -2147483648 ≤ x) (h1 : x ≤ 2147483647) : wrap32 x = x := by unfold wrap32; omega
theorem uni_ok (s : ByteArray) (p : Nat) (hp : p ≤ s.size) (out r : ByteArray) (p' : Nat) (h : uniE s p out = some (r, p', 0)) (ho : OkT out) : OkT r ∧ r.size + p ≤ out.size + p' ∧ p ≤ p' ∧ p' ≤ s.size := by
  obtain ⟨⟨x, e1⟩, hx, h⟩ := Option.bind_eq_some_iff.1 h
  simp only [] at h
  by_cases he : e1 = 0
  rotate_left
  · rw [if_neg he] at h
    injection h with h
    injection h with _ h
    injection h with _ h
    exact absurd h he
  subst he
  rw [if_pos rfl] at h
  have hfit := hexE_fit s 4 p 0 x hp hx
  have hx0 := hexE_pos s 4 p 0 x (by decide) (by decide) (by decide) hx
  obtain ⟨lo, hlo, h⟩ := Option.bind_eq_some_iff.1 h
  cases lo with
  | true =>
    rw [if_pos rfl] at h
    injection h with h
    injection h with _ h
    injection h with _ h
    exact absurd h (by decide)
  | false =>
    rw [if_neg Bool.false_ne_true] at h
    have nlo : ¬ (56320 ≤ x ∧ x ≤ 57343) := fun q => Bool.false_ne_true ((low_is x false hlo).2 q)
    obtain ⟨hi, hhi, h⟩ := Option.bind_eq_some_iff.1 h
    cases hi with
    | false =>
      rw [if_neg Bool.false_ne_true] at h
      have nhi : ¬ (55296 ≤ x ∧ x ≤ 56319) := fun q => Bool.false_ne_true ((high_is x false hhi).2 q)
      have hz : out.size ≤ 1000000000 := Decidable.by_contra fun hn => by rw [if_neg hn] at h; cases h
      rw [if_pos hz] at h
      injection h with h
      injection h with q1 h
      injection h with q2 q3
      obtain ⟨c1, c2, c3⟩ := char_rune x hx0.1 (by omega) (by omega)
      rw [← q1, ← q2]
      exact ⟨ho.more c1 c2, by rw [ByteArray.size_append]; omega, by omega, hfit⟩
    | true =>
      rw [if_pos rfl] at h
      have yhi := (high_is x true hhi).1 rfl
      obtain ⟨a, ha, h⟩ := Option.bind_eq_some_iff.1 h
      cases a with
      | false =>
        rw [if_neg Bool.false_ne_true] at h
        obtain ⟨b, hb, h⟩ := Option.bind_eq_some_iff.1 h
        injection h with h
        injection h with _ h
        injection h with _ h
        cases b <;> exact absurd h (by decide)
      | true =>
        rw [if_pos rfl] at h
        have h6 : p + 6 ≤ s.size := Decidable.by_contra fun hn => by rw [if_neg hn] at h; cases h
        rw [if_pos h6] at h
        obtain ⟨⟨y, e2⟩, hy, h⟩ := Option.bind_eq_some_iff.1 h
        simp only [] at h
        by_cases he2 : e2 = 0
        rotate_left
        · rw [if_neg he2] at h
          injection h with h
          injection h with _ h
          injection h with _ h
          exact absurd h he2
        subst he2
        rw [if_pos rfl] at h
        have hfit2 := hexE_fit s 4 (p + 6) 0 y h6 hy
        obtain ⟨l2, hl2, h⟩ := Option.bind_eq_some_iff.1 h
        cases l2 with
        | false =>
          rw [if_neg Bool.false_ne_true] at h
          injection h with h
          injection h with _ h
          injection h with _ h
          exact absurd h (by decide)
        | true =>
          rw [if_pos rfl] at h
          have ylo := (low_is y true hl2).1 rfl
          have hz : out.size ≤ 1000000000 := Decidable.by_contra fun hn => by rw [if_neg hn] at h; cases h
          rw [if_pos hz] at h
          injection h with h
          injection h with q1 h
          injection h with q2 q3
          have e : pairV x y = (x - 55296) * 1024 + (y - 56320) + 65536 := by
            unfold pairV
            rw [w32_id (x := x - 55296) (by omega) (by omega), w32_id (x := (x - 55296) * 1024) (by omega) (by omega), w32_id (x := y - 56320) (by omega) (by omega), w32_id (x := (x - 55296) * 1024 + (y - 56320)) (by omega) (by omega), w32_id (by omega) (by omega)]
          obtain ⟨c1, c2, c3⟩ := char_rune (pairV x y) (by omega) (by omega) (by omega)
          rw [← q1, ← q2]
          exact ⟨ho.more c1 c2, by rw [ByteArray.size_append]; omega, by omega, hfit2⟩
theorem esc_ok (s : ByteArray) (p : Nat) (out r : ByteArray) (p' : Nat) (h : escE s p out = some (r, p', 0)) (ho : OkT out) : OkT r ∧ r.size + p ≤ out.size + p' ∧ p ≤ p' ∧ p' ≤ s.size := by
  rw [escE] at h
  by_cases hp : p < s.size
  rotate_left
  · rw [if_neg hp] at h
    injection h with h
    injection h with _ h
    injection h with _ h
    exact absurd h (by decide)
  rw [if_pos hp] at h
  by_cases hu : bt s p = 117
  · rw [if_pos hu] at h
    have := uni_ok s (p + 1) hp out r p' h ho
    exact ⟨this.1, by omega, by omega, this.2.2.2⟩
  rw [if_neg hu] at h
  cases hc : escC (bt s p) with
  | none =>
    rw [hc] at h
    injection h with h
    injection h with _ h
    injection h with _ h
    exact absurd h (by decide)
  | some c =>
    rw [hc] at h
    simp only [] at h
    have hz : out.size ≤ 1000000000 := Decidable.by_contra fun hn => by rw [if_neg hn] at h; cases h
    rw [if_pos hz] at h
    injection h with h
    injection h with q1 h
    injection h with q2 q3
    have c1 : 0 ≤ c ∧ c < 128 := by
      unfold escC escB at hc
      repeat' split at hc
      all_goals first | (cases hc; done) | (have hc := Option.some.inj hc; omega)
    rw [← q1, ← q2]
    exact ⟨ho.more (char_one c c1.1 c1.2) (by rw [nums_len]; simp), by rw [ByteArray.size_append, nums_len]; simp; omega, by omega, hp⟩
/-- What is read is valid, not too long, and shorter than what it was read of. -/
theorem unq_ok (s : ByteArray) : ∀ (k p : Nat) (out t : ByteArray) (n : Int), unqE s k p out = some (t, n, 0) → p ≤ s.size → OkT out → out.size + 1 ≤ p → OkT t ∧ t.size ≤ 4096 ∧ ∃ n' : Nat, n = (n' : Int) ∧ t.size + 2 ≤ n' ∧ n' ≤ s.size ∧ p < n'
  | 0, p, out, t, n, h, hp, ho, hz => by rw [unqE] at h; cases h
  | k + 1, p, out, t, n, h, hp, ho, hz => by
    rw [unqE] at h
    by_cases hps : p < s.size
    rotate_left
    · rw [if_neg hps] at h
      injection h with h
      injection h with _ h
      injection h with _ h
      exact absurd h (by decide)
    rw [if_pos hps] at h
    by_cases h34 : bt s p = 34
    · rw [if_pos h34] at h
      by_cases hl : out.size > 4096
      · rw [if_pos hl] at h
        injection h with h
        injection h with _ h
        injection h with _ h
        exact absurd h (by decide)
      · rw [if_neg hl] at h
        injection h with h
        injection h with q1 h
        injection h with q2 q3
        rw [← q1]
        exact ⟨ho, by omega, p + 1, by omega, by omega, by omega, by omega⟩
    rw [if_neg h34] at h
    by_cases h92 : bt s p = 92
    · rw [if_pos h92] at h
      obtain ⟨⟨o2, p2, er⟩, hesc, h⟩ := Option.bind_eq_some_iff.1 h
      simp only [] at h
      by_cases he : er = 0
      rotate_left
      · rw [if_neg he] at h
        injection h with h
        injection h with _ h
        injection h with _ h
        exact absurd h he
      subst he
      rw [if_pos rfl] at h
      obtain ⟨a1, a2, a3, a4⟩ := esc_ok s (p + 1) out o2 p2 hesc ho
      obtain ⟨b1, b2, n', b3, b4, b5, b6⟩ := unq_ok s k p2 o2 t n h a4 a1 (by omega)
      exact ⟨b1, b2, n', b3, b4, b5, by omega⟩
    rw [if_neg h92] at h
    by_cases h32 : bt s p < 32
    · rw [if_pos h32] at h
      injection h with h
      injection h with _ h
      injection h with _ h
      exact absurd h (by decide)
    rw [if_neg h32] at h
    have hfit : p + (Lib.decodeGo (s.extract p s.size)).2 ≤ s.size ∧ out.size ≤ 1000000000 := Decidable.by_contra fun hn => by rw [if_neg hn] at h; cases h
    rw [if_pos hfit] at h
    have hne : (s.extract p s.size).size ≠ 0 := by rw [ByteArray.size_extract]; omega
    rcases dec_char s p hps with ⟨_, hd⟩ | ⟨c, h0, hd, _⟩
    · have hg : Lib.decodeGo (s.extract p s.size) = (65533, 1) := by rw [Lib.decodeGo, if_neg hne, hd]
      rw [hg, if_pos ⟨rfl, rfl⟩] at h
      injection h with h
      injection h with _ h
      injection h with _ h
      exact absurd h (by decide)
    · have hg : Lib.decodeGo (s.extract p s.size) = (c, charN s p) := by rw [Lib.decodeGo, if_neg hne, hd]
      rw [hg] at h hfit
      simp only [] at h hfit
      by_cases hb : c = 65533 ∧ charN s p = 1
      · rw [if_pos hb] at h
        injection h with h
        injection h with _ h
        injection h with _ h
        exact absurd h (by decide)
      rw [if_neg hb] at h
      obtain ⟨w, hw⟩ : ∃ w, charN s p = w := ⟨_, rfl⟩
      rw [hw] at h hfit h0
      have xsz : (s.extract p (p + w)).size = w := by rw [ByteArray.size_extract]; omega
      have hbt : ∀ j, j < w → bt (s.extract p (p + w)) ((0 + j : Nat) : Int) = bt s ((p + j : Nat) : Int) := by
        intro j hj
        rw [Nat.zero_add]
        unfold bt
        rw [dif_pos (by omega), dif_pos (by omega)]
        have e5 : ∀ (x : Nat) (hx : x < (s.extract p (p + w)).size) (y : Nat) (hy : y < s.size), y = p + x → (s.extract p (p + w))[x]'hx = s[y]'hy := by
          intro x hx y hy hxy
          subst hxy
          exact ByteArray.getElem_extract hx
        exact congrArg (fun c : UInt8 => (c.toNat : Int)) (e5 _ _ _ _ (by omega))
      have hc := charN_same s (s.extract p (p + w)) p 0 w hw (by omega) (by omega) hbt
      have hok := ho.more (b := s.extract p (p + w)) (by rw [xsz]; exact hc) (by omega)
      obtain ⟨b1, b2, n', b3, b4, b5, b6⟩ := unq_ok s k (p + w) (out ++ s.extract p (p + w)) t n h hfit.1 hok (by rw [ByteArray.size_append, xsz]; omega)
      exact ⟨b1, b2, n', b3, b4, b5, by omega⟩
/-! What is told right is read so. -/
theorem uniF_E (s : ByteArray) (p : Nat) (out r : ByteArray) (h : uniF s p out = some r) : uniE s p out = some (r, p + 4, 0) := by
  obtain ⟨x, hx, h⟩ := Option.bind_eq_some_iff.1 h
  have hc : 0 ≤ x ∧ x ≤ 65535 ∧ (x < 55296 ∨ 57343 < x) ∧ out.size ≤ 1000000000 := Decidable.by_contra fun hn => by rw [if_neg hn] at h; cases h
  rw [if_pos hc] at h
  have hlow : utf_low.f x = some false := by
    unfold utf_low.f
    by_cases c : x ≥ 56320
    · rw [if_pos c]; exact congrArg some (decide_eq_false (by omega))
    · rw [if_neg c]
  have hhigh : utf_high.f x = some false := by
    unfold utf_high.f
    by_cases c : x ≥ 55296
    · rw [if_pos c]; exact congrArg some (decide_eq_false (by omega))
    · rw [if_neg c]
  rw [uniE, hexF_E s 4 p 0 x hx, Option.bind_some, if_pos rfl, hlow, Option.bind_some, if_neg Bool.false_ne_true, hhigh, Option.bind_some, if_neg Bool.false_ne_true, if_pos hc.2.2.2, Option.some.inj h]
theorem escF_E (s : ByteArray) (p : Nat) (out r : ByteArray) (p' : Nat) (h : escF s p out = some (r, p')) : escE s p out = some (r, p', 0) := by
  have hc : p < s.size ∧ out.size ≤ 1000000000 := Decidable.by_contra fun hn => by rw [escF, if_neg hn] at h; cases h
  rw [escF, if_pos hc] at h
  rw [escE, if_pos hc.1]
  by_cases hu : bt s p = 117
  · rw [if_pos hu] at h ⊢
    obtain ⟨r1, hr1, h⟩ := Option.bind_eq_some_iff.1 h
    injection h with h
    injection h with q1 q2
    rw [uniF_E s (p + 1) out r1 hr1, q1, ← q2]
  · rw [if_neg hu] at h ⊢
    obtain ⟨c, hb, h⟩ := Option.bind_eq_some_iff.1 h
    injection h with h
    injection h with q1 q2
    have h47 : bt s p ≠ 47 := fun q => by
      rw [q, show escB 47 = none by decide] at hb
      cases hb
    have e : escC (bt s p) = some c := by rw [escC, if_neg h47, hb]
    rw [e]
    simp only []
    rw [if_pos hc.2, q1, q2]
/-- The text from a place on: what is read, the place behind it, the code; as far as nothing is wrong but its length. -/
def unqL (s : ByteArray) : Nat → Nat → ByteArray → Option (ByteArray × Int × Int)
  | 0, _, _ => none
  | k + 1, p, out =>
    if p < s.size then
      if bt s p = 34 then (if out.size > 4096 then some (⟨#[]⟩, 0, 2) else some (out, (p : Int) + 1, 0))
      else if bt s p = 92 then (escF s (p + 1) out).bind fun t => unqL s k t.2 t.1
      else if bt s p < 32 then none
      else if (Lib.decodeGo (s.extract p s.size)).1 = 65533 ∧ (Lib.decodeGo (s.extract p s.size)).2 = 1 then none
      else if p + (Lib.decodeGo (s.extract p s.size)).2 ≤ s.size ∧ out.size ≤ 1000000000 then unqL s k (p + (Lib.decodeGo (s.extract p s.size)).2) (out ++ s.extract p (p + (Lib.decodeGo (s.extract p s.size)).2)) else none
    else none
theorem unqL_E (s : ByteArray) : ∀ (k p : Nat) (out : ByteArray) (r : ByteArray × Int × Int), unqL s k p out = some r → unqE s k p out = some r
  | 0, p, out, r, h => by rw [unqL] at h; cases h
  | k + 1, p, out, r, h => by
    rw [unqL] at h
    rw [unqE]
    by_cases hps : p < s.size
    rotate_left
    · rw [if_neg hps] at h
      cases h
    rw [if_pos hps] at h ⊢
    by_cases h34 : bt s p = 34
    · rw [if_pos h34] at h ⊢
      exact h
    rw [if_neg h34] at h ⊢
    by_cases h92 : bt s p = 92
    · rw [if_pos h92] at h ⊢
      obtain ⟨⟨o2, p2⟩, hesc, h⟩ := Option.bind_eq_some_iff.1 h
      rw [escF_E s (p + 1) out o2 p2 hesc, Option.bind_some, if_pos rfl]
      exact unqL_E s k p2 o2 r h
    rw [if_neg h92] at h ⊢
    by_cases h32 : bt s p < 32
    · rw [if_pos h32] at h
      cases h
    rw [if_neg h32] at h ⊢
    by_cases hb : (Lib.decodeGo (s.extract p s.size)).1 = 65533 ∧ (Lib.decodeGo (s.extract p s.size)).2 = 1
    · rw [if_pos hb] at h
      cases h
    rw [if_neg hb] at h ⊢
    by_cases hf : p + (Lib.decodeGo (s.extract p s.size)).2 ≤ s.size ∧ out.size ≤ 1000000000
    · rw [if_pos hf] at h ⊢
      exact unqL_E s k _ _ r h
    · rw [if_neg hf] at h
      cases h
theorem ext_mid (a b c : ByteArray) : (a ++ (b ++ c)).extract a.size (a.size + b.size) = b := by
  apply ByteArray.ext
  apply Array.ext'
  rw [ByteArray.data_extract, Array.toList_extract]
  have hd : (a ++ (b ++ c)).data.toList = a.data.toList ++ (b.data.toList ++ c.data.toList) := by simp
  rw [hd]
  show (List.drop a.size (a.data.toList ++ (b.data.toList ++ c.data.toList))).take (a.size + b.size - a.size) = _
  rw [List.drop_left' (by rw [Array.length_toList]; rfl), List.take_left' (by rw [Array.length_toList]; show b.size = _; omega)]
theorem ext_join (s : ByteArray) (i j : Nat) (h : i ≤ j) (hj : j ≤ s.size) : s.extract 0 i ++ s.extract i j = s.extract 0 j := by
  rw [ByteArray.extract_append_extract]
  congr 1 <;> omega
theorem ext_one (s : ByteArray) (i : Nat) (h : i < s.size) : s.extract i (i + 1) = strOfNums [bt s i] := by
  apply ByteArray.ext
  apply Array.ext'
  rw [ByteArray.data_extract, Array.toList_extract]
  have hl : i < s.data.toList.length := by rw [Array.length_toList]; exact h
  show (s.data.toList.drop i).take (i + 1 - i) = _
  rw [List.drop_eq_getElem_cons hl, show i + 1 - i = 0 + 1 by omega, List.take_succ_cons, List.take_zero]
  simp only [strOfNums, bt, Int.toNat_natCast, dif_pos h]
  simp
  rfl
theorem ext_all (s : ByteArray) : s.extract 0 s.size = s := ByteArray.extract_zero_size
theorem charN_hi (s : ByteArray) (i : Nat) (w : Nat) (hw : charN s i = w) (h2 : 2 ≤ w) : ∀ j, j < w → 128 ≤ bt s ((i + j : Nat) : Int) := by
  unfold charN okB at hw
  simp only [Bool.and_eq_true, decide_eq_true_eq] at hw
  intro j hj
  have c : j = 0 ∨ j = 1 ∨ j = 2 ∨ j = 3 := by
    repeat' split at hw
    all_goals omega
  have l1 : ∀ a : Int, 128 ≤ (if bt s i = a then (160 : Int) else 128) ∧ 128 ≤ (if bt s i = a then (144 : Int) else 128) := by
    intro a
    by_cases h : bt s i = a <;> simp [h]
  have l2 := l1 224
  have l3 := l1 240
  have e0 : ((i + 0 : Nat) : Int) = (i : Int) := rfl
  repeat' split at hw
  all_goals first | omega | (rcases c with rfl | rfl | rfl | rfl <;> (try rw [e0]) <;> omega)
theorem quote_high (b : Int) (h : 128 ≤ b) : quoteI b = [b] := by
  unfold quoteI shortI
  rw [if_neg (show ¬ b = 34 by omega), if_neg (show ¬ b = 92 by omega), if_neg (show ¬ b = 10 by omega), if_neg (show ¬ b = 13 by omega), if_neg (show ¬ b = 9 by omega), if_neg (show ¬ b = 8 by omega), if_neg (show ¬ b = 12 by omega), if_neg (by decide), if_neg (by omega)]
/-- Bytes from 128 on are quoted as they stand. -/
theorem quote_copy (s : ByteArray) : ∀ (w i m : Nat), w ≤ m → i + m = s.size → (∀ j, j < w → 128 ≤ bt s ((i + j : Nat) : Int)) → quoteR s m i = s.extract i (i + w) ++ quoteR s (m - w) (i + w)
  | 0, i, m, _, _, _ => by
    have : s.extract i (i + 0) = ⟨#[]⟩ := by
      apply ByteArray.ext
      rw [ByteArray.data_extract]
      simp
      omega
    rw [this, Nat.add_zero, Nat.sub_zero, show (⟨#[]⟩ : ByteArray) ++ quoteR s m i = quoteR s m i from ByteArray.empty_append]
  | w + 1, i, m, hm, hs, hb => by
    obtain ⟨m, rfl⟩ : ∃ m', m = m' + 1 := ⟨m - 1, by omega⟩
    have ih := quote_copy s w (i + 1) m (by omega) (by omega) (fun j hj => by
      have := hb (j + 1) (by omega)
      rw [show i + 1 + j = i + (j + 1) by omega]
      exact this)
    have e : s.extract i (i + (w + 1)) = s.extract i (i + 1) ++ s.extract (i + 1) (i + 1 + w) := by
      rw [ByteArray.extract_append_extract]
      congr 1 <;> omega
    have h0 : quoteI (bt s i) = [bt s i] := quote_high _ (hb 0 (by omega))
    rw [quoteR, h0, ih, e, ext_one s i (by omega), ByteArray.append_assoc, show m + 1 - (w + 1) = m - w by omega, show i + 1 + w = i + (w + 1) by omega]
/-- Four digits. -/
def hexN : List Int → Int → Option Int
  | [], v => some v
  | b :: l, v => (utf_lower.f b).bind fun b => (strings_IndexByte.f digT b).bind fun d => if d < 0 then none else hexN l (wrap32 (wrap32 (16 * v) + wrap32 d))
theorem hexF_is (t : ByteArray) : ∀ (l : List Int) (p : Nat) (v : Int), p + l.length ≤ t.size → (∀ j (h : j < l.length), bt t ((p + j : Nat) : Int) = l[j]) → hexF t l.length p v = hexN l v
  | [], _, _, _, _ => rfl
  | b :: l, p, v, hp, hb => by
    rw [List.length_cons] at hp
    have h0 := hb 0 (by simp)
    rw [List.length_cons, hexF, if_pos (by omega), hexN, show bt t (p : Int) = b from h0]
    congr 1
    funext x
    congr 1
    funext d
    rw [hexF_is t l (p + 1) _ (by omega) (fun j hj => by
      have := hb (j + 1) (by rw [List.length_cons]; omega)
      rw [show p + 1 + j = p + (j + 1) by omega]
      exact this)]
theorem hex32 : ∀ b : Fin 32, hexN [48, 48, bt digT (((b.val : Nat) : Int) / 16), bt digT (((b.val : Nat) : Int) % 16)] 0 = some ((b.val : Nat) : Int) := by decide +kernel
theorem esc_short : ∀ b : Fin 128, shortI ((b.val : Nat) : Int) ≠ 0 → escB (shortI ((b.val : Nat) : Int)) = some ((b.val : Nat) : Int) ∧ shortI ((b.val : Nat) : Int) ≠ 117 := by decide +kernel
/-- The answer. -/
def ansQ (s : ByteArray) (m : Nat) : ByteArray × Int × Int := if s.size > 4096 then (⟨#[]⟩, 0, 2) else (s, (m : Int), 0)
theorem unq_loop (s behind t : ByteArray) (hs : s.size ≤ 6000) (ht : t.size ≤ 1000000) : ∀ (n i k : Nat) (pre : ByteArray), i ≤ s.size → s.size - i ≤ n → chain s n i = true → t = pre ++ (quoteR s (s.size - i) i ++ behind) → n + 1 < k →
    unqL t k pre.size (s.extract 0 i) = some (ansQ s (t.size - behind.size)) := by
  have fin : ∀ (k : Nat) (pre : ByteArray), t = pre ++ (quoteR s 0 s.size ++ behind) → 1 < k → unqL t k pre.size (s.extract 0 s.size) = some (ansQ s (t.size - behind.size)) := by
    intro k pre e hk
    obtain ⟨k, rfl⟩ : ∃ j, k = j + 1 := ⟨k - 1, by omega⟩
    rw [quoteR] at e
    have hz : t.size = pre.size + (1 + behind.size) := by rw [e, ByteArray.size_append, ByteArray.size_append, nums_len]; rfl
    have hb : bt t (pre.size : Int) = 34 := by
      rw [e]
      have := bt_right pre (strOfNums [34] ++ behind) 0
      rw [Nat.add_zero] at this
      rw [this, bt_left _ _ 0 (by rw [nums_len]; decide)]
      rfl
    rw [unqL, if_pos (by omega), if_pos hb, ext_all, ansQ]
    by_cases h : s.size > 4096
    · rw [if_pos h, if_pos h]
    · rw [if_neg h, if_neg h, show t.size - behind.size = pre.size + 1 by omega]
      rfl
  intro n
  induction n with
  | zero =>
    intro i k pre hi hn hc e hk
    obtain rfl : i = s.size := by omega
    rw [Nat.sub_self] at e
    exact fin k pre e (by omega)
  | succ n ih =>
    intro i k pre hi hn hc e hk
    by_cases h : i < s.size
    · obtain ⟨k, rfl⟩ : ∃ j, k = j + 1 := ⟨k - 1, by omega⟩
      rw [chain, if_pos h] at hc
      have h0 : charN s i ≠ 0 := fun q => by rw [if_pos q] at hc; cases hc
      rw [if_neg h0] at hc
      have hf := charN_fit s i h
      have hr := bt_range s i
      have osz : (s.extract 0 i).size ≤ 1000000000 := by rw [ByteArray.size_extract]; omega
      -- one byte
      have one : charN s i = 1 → ∀ q pre', unqL t (k + 1) pre.size (s.extract 0 i) = unqL t k q (s.extract 0 i ++ strOfNums [bt s i]) → pre'.size = q → t = pre' ++ (quoteR s (s.size - (i + 1)) (i + 1) ++ behind) → unqL t (k + 1) pre.size (s.extract 0 i) = some (ansQ s (t.size - behind.size)) := by
        intro h1 q pre' e1 e2 e3
        rw [e1, ← e2, ← ext_one s i h, ext_join s i (i + 1) (by omega) (by omega)]
        rw [h1] at hc
        exact ih (i + 1) k pre' (by omega) (by omega) hc e3 (by omega)
      by_cases h1 : charN s i = 1
      · have hlow : bt s i < 128 := Decidable.by_contra fun hn => by
          unfold charN at h1
          rw [if_neg hn] at h1
          repeat' split at h1
          all_goals omega
        obtain ⟨m, hm⟩ : ∃ m, s.size - i = m + 1 := ⟨s.size - i - 1, by omega⟩
        rw [hm, quoteR] at e
        have hm2 : s.size - (i + 1) = m := by omega
        have hq : ∀ x ∈ quoteI (bt s i), 0 ≤ x ∧ x < 256 := by
          intro x hx
          have s1 := short_range (bt s i) hr
          have s2 := hex_range (bt s i / 16)
          have s3 := hex_range (bt s i % 16)
          unfold quoteI at hx
          repeat' split at hx
          all_goals simp only [List.mem_cons, List.mem_nil_iff, or_false] at hx
          all_goals omega
        have at_ : ∀ j (hj : j < (quoteI (bt s i)).length), bt t ((pre.size + j : Nat) : Int) = (quoteI (bt s i))[j] := by
          intro j hj
          rw [e, bt_right, ByteArray.append_assoc, bt_left _ _ j (by rw [nums_len]; exact hj), bt_nums _ j hj hq]
        have hz : pre.size + (quoteI (bt s i)).length ≤ t.size := by
          rw [e, ByteArray.size_append, ByteArray.size_append, ByteArray.size_append, nums_len]; omega
        have e' : t = (pre ++ strOfNums (quoteI (bt s i))) ++ (quoteR s (s.size - (i + 1)) (i + 1) ++ behind) := by
          rw [hm2, e]
          simp only [ByteArray.append_assoc]
        have psz : (pre ++ strOfNums (quoteI (bt s i))).size = pre.size + (quoteI (bt s i)).length := by rw [ByteArray.size_append, nums_len]
        by_cases hsh : shortI (bt s i) ≠ 0
        · have hqi : quoteI (bt s i) = [92, shortI (bt s i)] := by unfold quoteI; rw [if_pos hsh]
          rw [hqi] at at_ hz psz e'
          have b0 := at_ 0 (by simp)
          have b1 := at_ 1 (by simp)
          simp only [List.length_cons, List.length_nil] at hz psz
          obtain ⟨nb, hnb⟩ := Int.eq_ofNat_of_zero_le hr.1
          have es := esc_short ⟨nb, by omega⟩
          rw [show (((⟨nb, by omega⟩ : Fin 128).val : Nat) : Int) = bt s i from hnb.symm] at es
          obtain ⟨es1, es2⟩ := es hsh
          refine one h1 (pre.size + 2) _ ?_ psz e'
          rw [unqL, if_pos (by omega), if_neg (by rw [show bt t (pre.size : Int) = 92 from b0]; decide), if_pos (show bt t (pre.size : Int) = 92 from b0), escF, if_pos ⟨by omega, osz⟩]
          rw [show bt t ((pre.size + 1 : Nat) : Int) = shortI (bt s i) from b1, if_neg es2, es1]
          rfl
        · have hs0 : shortI (bt s i) = 0 := by omega
          by_cases h32 : bt s i < 32
          · have hqi : quoteI (bt s i) = [92, 117, 48, 48, bt digT (bt s i / 16), bt digT (bt s i % 16)] := by unfold quoteI; rw [if_neg hsh, if_pos h32]
            rw [hqi] at at_ hz psz e'
            have b0 := at_ 0 (by simp)
            have b1 := at_ 1 (by simp)
            simp only [List.length_cons, List.length_nil] at hz psz
            obtain ⟨nb, hnb⟩ := Int.eq_ofNat_of_zero_le hr.1
            have hx := hex32 ⟨nb, by omega⟩
            rw [show (((⟨nb, by omega⟩ : Fin 32).val : Nat) : Int) = bt s i from hnb.symm] at hx
            have hh := hexF_is t [48, 48, bt digT (bt s i / 16), bt digT (bt s i % 16)] (pre.size + 1 + 1) 0 (by simp only [List.length_cons, List.length_nil]; omega) (fun j hj => by
              have := at_ (j + 2) (by simp only [List.length_cons, List.length_nil] at hj ⊢; omega)
              rw [show pre.size + 1 + 1 + j = pre.size + (j + 2) by omega, this]
              rfl)
            rw [hx] at hh
            have hu : uniF t (pre.size + 1 + 1) (s.extract 0 i) = some (s.extract 0 i ++ strOfNums [bt s i]) := by
              rw [uniF, show hexF t 4 (pre.size + 1 + 1) 0 = some (bt s i) from hh, Option.bind_some, if_pos ⟨hr.1, by omega, .inl (by omega), osz⟩, runeB, Lib.encodeRuneZ_one hr.1 (by omega)]
            refine one h1 (pre.size + 6) _ ?_ psz e'
            rw [unqL, if_pos (by omega), if_neg (by rw [show bt t (pre.size : Int) = 92 from b0]; decide), if_pos (show bt t (pre.size : Int) = 92 from b0), escF, if_pos ⟨by omega, osz⟩]
            rw [show bt t ((pre.size + 1 : Nat) : Int) = 117 from b1, if_pos rfl, hu]
            rfl
          · have hqi : quoteI (bt s i) = [bt s i] := by unfold quoteI; rw [if_neg hsh, if_neg h32]
            have n34 : bt s i ≠ 34 := fun q => by rw [q] at hs0; exact absurd hs0 (by decide)
            have n92 : bt s i ≠ 92 := fun q => by rw [q] at hs0; exact absurd hs0 (by decide)
            rw [hqi] at at_ hz psz e'
            have b0 : bt t (pre.size : Int) = bt s i := at_ 0 (by simp)
            simp only [List.length_cons, List.length_nil] at hz psz
            have ct : charN t pre.size = 1 := by unfold charN; rw [b0, if_pos hlow]
            have hne : (t.extract pre.size t.size).size ≠ 0 := by rw [ByteArray.size_extract]; omega
            rcases dec_char t pre.size (by omega) with ⟨q, _⟩ | ⟨c, _, hd, hc1⟩
            · rw [ct] at q; cases q
            · rw [ct] at hd hc1
              have hc2 := hc1 rfl
              have hg : Lib.decodeGo (t.extract pre.size t.size) = (c, 1) := by rw [Lib.decodeGo, if_neg hne, hd]
              refine one h1 (pre.size + 1) _ ?_ psz e'
              rw [unqL, if_pos (by omega), if_neg (by rw [b0]; exact n34), if_neg (by rw [b0]; exact n92), if_neg (by rw [b0]; exact h32), hg, if_neg (by simp only []; omega), if_pos ⟨by simp only []; omega, osz⟩]
              simp only []
              rw [ext_one t pre.size (by omega), b0]
      · have h2 : 2 ≤ charN s i := by omega
        obtain ⟨w, hw⟩ : ∃ w, charN s i = w := ⟨_, rfl⟩
        rw [hw] at h2 hf hc h1 h0
        have hhi := charN_hi s i w hw h2
        have hcp := quote_copy s w i (s.size - i) (by omega) (by omega) hhi
        rw [hcp] at e
        have xsz : (s.extract i (i + w)).size = w := by rw [ByteArray.size_extract]; omega
        have hz : t.size = pre.size + (w + ((quoteR s (s.size - i - w) (i + w)).size + behind.size)) := by
          rw [e]; simp only [ByteArray.size_append, xsz]; omega
        have hbt : ∀ j, j < w → bt t ((pre.size + j : Nat) : Int) = bt s ((i + j : Nat) : Int) := by
          intro j hj
          rw [e, bt_right, ByteArray.append_assoc, bt_left _ _ j (by omega)]
          unfold bt
          rw [dif_pos (by omega), dif_pos (by omega)]
          have e5 : ∀ (x : Nat) (hx : x < (s.extract i (i + w)).size) (y : Nat) (hy : y < s.size), y = i + x → (s.extract i (i + w))[x]'hx = s[y]'hy := by
            intro x hx y hy hxy
            subst hxy
            exact ByteArray.getElem_extract hx
          exact congrArg (fun c : UInt8 => (c.toNat : Int)) (e5 _ _ _ _ (by omega))
        have ct := charN_eq s t i pre.size w hw h2 (by omega) hbt
        have b0 : bt t (pre.size : Int) = bt s i := hbt 0 (by omega)
        have b128 : 128 ≤ bt s i := hhi 0 (by omega)
        have hne : (t.extract pre.size t.size).size ≠ 0 := by rw [ByteArray.size_extract]; omega
        rcases dec_char t pre.size (by omega) with ⟨q, _⟩ | ⟨c, _, hd, _⟩
        · rw [ct] at q; omega
        · rw [ct] at hd
          have hg : Lib.decodeGo (t.extract pre.size t.size) = (c, w) := by rw [Lib.decodeGo, if_neg hne, hd]
          have hx : t.extract pre.size (pre.size + w) = s.extract i (i + w) := by
            have := ext_mid pre (s.extract i (i + w)) (quoteR s (s.size - i - w) (i + w) ++ behind)
            rw [xsz, ← ByteArray.append_assoc (a := s.extract i (i + w)), ← e] at this
            exact this
          rw [unqL, if_pos (by omega), if_neg (by rw [b0]; omega), if_neg (by rw [b0]; omega), if_neg (by rw [b0]; omega), hg, if_neg (by simp only []; omega), if_pos ⟨by simp only []; omega, osz⟩]
          simp only []
          rw [hx, ext_join s i (i + w) (by omega) (by omega)]
          have psz : (pre ++ s.extract i (i + w)).size = pre.size + w := by rw [ByteArray.size_append, xsz]
          rw [← psz]
          exact ih (i + w) k (pre ++ s.extract i (i + w)) (by omega) (by omega) hc (by
            rw [show s.size - (i + w) = s.size - i - w by omega]
            exact e.trans (by simp only [ByteArray.append_assoc])) (by omega)
    · obtain rfl : i = s.size := by omega
      rw [Nat.sub_self] at e
      exact fin k pre e (by omega)
theorem quote_size (s : ByteArray) : ∀ n i, (quoteR s n i).size ≤ 1 + 6 * n
  | 0, _ => by rw [quoteR, nums_len]; decide
  | n + 1, i => by
    have := quote_size s n (i + 1)
    have hq : (quoteI (bt s i)).length ≤ 6 := by
      unfold quoteI
      repeat' split
      all_goals simp
    rw [quoteR, ByteArray.size_append, nums_len]
    omega
end Go.Proofs.YtnkkbiabloodaaaDoor.Pure
