/- Characters of UTF-8: the table; Go's decoder knows them. Plain lemmas. No conditions beside those stated. -/
import Derived.Test.YtnkkbiabloodaaaDoorGUtUnq
import Derived.Lib.ValidU
namespace Go.Proofs.YtnkkbiabloodaaaDoor.Pure
open Go.RowKit Go.Proofs.YtnkkbiabloodaaaDoor.GUt Go.Proofs.YtnkkbiabloodaaaDoorW.PrintWords Go.Proofs.YtnkkbiabloodaaaDoorW.PrintLast Go.Proofs.YtnkkbiabloodaaaDoorW.PrintMore

/-- A byte between two ones. -/
def okB (s : ByteArray) (j : Nat) (lo hi : Int) : Bool := decide (j < s.size) && (decide (lo ≤ bt s j) && decide (bt s j ≤ hi))
/-- How many bytes the character at a place has; 0: there is none. -/
def charN (s : ByteArray) (i : Nat) : Nat :=
  if bt s i < 128 then 1
  else if 194 ≤ bt s i ∧ bt s i ≤ 223 then (if okB s (i + 1) 128 191 = true then 2 else 0)
  else if 224 ≤ bt s i ∧ bt s i ≤ 239 then (if okB s (i + 1) (if bt s i = 224 then 160 else 128) (if bt s i = 237 then 159 else 191) = true ∧ okB s (i + 2) 128 191 = true then 3 else 0)
  else if 240 ≤ bt s i ∧ bt s i ≤ 244 then (if okB s (i + 1) (if bt s i = 240 then 144 else 128) (if bt s i = 244 then 143 else 191) = true ∧ okB s (i + 2) 128 191 = true ∧ okB s (i + 3) 128 191 = true then 4 else 0)
  else 0
/-- From a place on, character after character. -/
def chain (s : ByteArray) : Nat → Nat → Bool
  | 0, _ => true
  | n + 1, i => if i < s.size then (if charN s i = 0 then false else chain s n (i + charN s i)) else true
theorem charN_fit (s : ByteArray) (i : Nat) (hi : i < s.size) : i + charN s i ≤ s.size ∧ charN s i ≤ 4 := by
  unfold charN okB
  simp only [Bool.and_eq_true, decide_eq_true_eq]
  repeat' split
  all_goals omega
/-! Go's decoder. -/
theorem get_bt (s : ByteArray) (i k : Nat) (hi : i ≤ s.size) : (((s.extract i s.size).get! (0 + k)).toNat : Int) = bt s ((i + k : Nat) : Int) := by
  have hsz : (s.extract i s.size).size = s.size - i := by rw [ByteArray.size_extract]; omega
  unfold bt
  by_cases h : i + k < s.size
  · have h1 : 0 + k < (s.extract i s.size).size := by omega
    rw [dif_pos (by omega)]
    rw [show (s.extract i s.size).get! (0 + k) = (s.extract i s.size)[0 + k]'h1 from getElem!_pos (s.extract i s.size).data (0 + k) h1]
    have e : (s.extract i s.size)[0 + k]'h1 = s[i + k]'h := by
      simp only [ByteArray.getElem_extract]
      congr 1
      omega
    rw [e]
    rfl
  · rw [dif_neg (by omega)]
    have h1 : ¬ 0 + k < (s.extract i s.size).data.size := by
      have : (s.extract i s.size).data.size = (s.extract i s.size).size := rfl
      omega
    have e : (s.extract i s.size).get! (0 + k) = 0 := by
      cases hx : s.extract i s.size with
      | mk d =>
        rw [hx] at h1
        exact getElem!_neg d (0 + k) h1
    rw [e]
    rfl
/-- Go's decoder, over four bytes and how many are there. -/
def decN (b0 b1 b2 b3 m : Nat) : Nat × Nat :=
  if b0 < 128 then (b0, 1)
  else if b0 / 32 = 6 ∧ (1 < m ∧ b1 / 64 = 2) then (if 128 ≤ b0 % 32 * 64 + b1 % 64 then (b0 % 32 * 64 + b1 % 64, 2) else (65533, 1))
  else if (b0 / 16 = 14 ∧ (1 < m ∧ b1 / 64 = 2)) ∧ (2 < m ∧ b2 / 64 = 2) then (if 2048 ≤ b0 % 16 * 4096 + b1 % 64 * 64 + b2 % 64 ∧ (b0 % 16 * 4096 + b1 % 64 * 64 + b2 % 64 < 55296 ∨ (57344 ≤ b0 % 16 * 4096 + b1 % 64 * 64 + b2 % 64 ∧ b0 % 16 * 4096 + b1 % 64 * 64 + b2 % 64 ≤ 1114111)) then (b0 % 16 * 4096 + b1 % 64 * 64 + b2 % 64, 3) else (65533, 1))
  else if ((b0 / 8 = 30 ∧ (1 < m ∧ b1 / 64 = 2)) ∧ (2 < m ∧ b2 / 64 = 2)) ∧ (3 < m ∧ b3 / 64 = 2) then (if 65536 ≤ b0 % 8 * 262144 + b1 % 64 * 4096 + b2 % 64 * 64 + b3 % 64 ∧ (b0 % 8 * 262144 + b1 % 64 * 4096 + b2 % 64 * 64 + b3 % 64 < 55296 ∨ (57344 ≤ b0 % 8 * 262144 + b1 % 64 * 4096 + b2 % 64 * 64 + b3 % 64 ∧ b0 % 8 * 262144 + b1 % 64 * 4096 + b2 % 64 * 64 + b3 % 64 ≤ 1114111)) then (b0 % 8 * 262144 + b1 % 64 * 4096 + b2 % 64 * 64 + b3 % 64, 4) else (65533, 1))
  else (65533, 1)
theorem dec_is (x : ByteArray) : Utf8.decode x 0 = decN (x.get! (0 + 0)).toNat (x.get! (0 + 1)).toNat (x.get! (0 + 2)).toNat (x.get! (0 + 3)).toNat x.size := by
  unfold Utf8.decode decN Utf8.valid Utf8.runeError
  simp only [Bool.and_eq_true, Bool.or_eq_true, decide_eq_true_eq, beq_iff_eq, Nat.zero_add, ge_iff_le]
  have v : ∀ c : Nat, ((0 ≤ (c : Int) ∧ (c : Int) < 55296) ∨ (57344 ≤ (c : Int) ∧ (c : Int) ≤ 1114111)) ↔ (c < 55296 ∨ (57344 ≤ c ∧ c ≤ 1114111)) := fun c => by omega
  simp only [v]
/-- The width by the table, over four bytes and how many are there. -/
def chN (b0 b1 b2 b3 m : Nat) : Nat :=
  if b0 < 128 then 1
  else if 194 ≤ b0 ∧ b0 ≤ 223 then (if 1 < m ∧ 128 ≤ b1 ∧ b1 ≤ 191 then 2 else 0)
  else if 224 ≤ b0 ∧ b0 ≤ 239 then (if (1 < m ∧ (if b0 = 224 then 160 else 128) ≤ b1 ∧ b1 ≤ (if b0 = 237 then 159 else 191)) ∧ (2 < m ∧ 128 ≤ b2 ∧ b2 ≤ 191) then 3 else 0)
  else if 240 ≤ b0 ∧ b0 ≤ 244 then (if (1 < m ∧ (if b0 = 240 then 144 else 128) ≤ b1 ∧ b1 ≤ (if b0 = 244 then 143 else 191)) ∧ (2 < m ∧ 128 ≤ b2 ∧ b2 ≤ 191) ∧ (3 < m ∧ 128 ≤ b3 ∧ b3 ≤ 191) then 4 else 0)
  else 0
theorem ch_is (s : ByteArray) (i : Nat) (hi : i < s.size) (b0 b1 b2 b3 : Nat) (e0 : (b0 : Int) = bt s i) (e1 : (b1 : Int) = bt s ((i + 1 : Nat) : Int)) (e2 : (b2 : Int) = bt s ((i + 2 : Nat) : Int)) (e3 : (b3 : Int) = bt s ((i + 3 : Nat) : Int)) : charN s i = chN b0 b1 b2 b3 (s.size - i) := by
  unfold charN okB chN
  rw [← e0, ← e1, ← e2, ← e3]
  simp only [Bool.and_eq_true, decide_eq_true_eq]
  have p1 : (i + 1 < s.size) = (1 < s.size - i) := propext (by omega)
  have p2 : (i + 2 < s.size) = (2 < s.size - i) := propext (by omega)
  have p3 : (i + 3 < s.size) = (3 < s.size - i) := propext (by omega)
  have c1 : ((b0 : Int) < 128) = (b0 < 128) := propext (by omega)
  have c2 : (194 ≤ (b0 : Int) ∧ (b0 : Int) ≤ 223) = (194 ≤ b0 ∧ b0 ≤ 223) := propext (by omega)
  have c3 : (224 ≤ (b0 : Int) ∧ (b0 : Int) ≤ 239) = (224 ≤ b0 ∧ b0 ≤ 239) := propext (by omega)
  have c4 : (240 ≤ (b0 : Int) ∧ (b0 : Int) ≤ 244) = (240 ≤ b0 ∧ b0 ≤ 244) := propext (by omega)
  have d1 : (128 ≤ (b1 : Int) ∧ (b1 : Int) ≤ 191) = (128 ≤ b1 ∧ b1 ≤ 191) := propext (by omega)
  have d2 : (128 ≤ (b2 : Int) ∧ (b2 : Int) ≤ 191) = (128 ≤ b2 ∧ b2 ≤ 191) := propext (by omega)
  have d3 : (128 ≤ (b3 : Int) ∧ (b3 : Int) ≤ 191) = (128 ≤ b3 ∧ b3 ≤ 191) := propext (by omega)
  have f1 : ((if (b0 : Int) = 224 then (160 : Int) else 128) ≤ (b1 : Int) ∧ (b1 : Int) ≤ (if (b0 : Int) = 237 then (159 : Int) else 191)) = ((if b0 = 224 then 160 else 128) ≤ b1 ∧ b1 ≤ (if b0 = 237 then 159 else 191)) := propext (by
    by_cases h1 : b0 = 224 <;> by_cases h2 : b0 = 237 <;> simp [h1, h2] <;> omega)
  have f2 : ((if (b0 : Int) = 240 then (144 : Int) else 128) ≤ (b1 : Int) ∧ (b1 : Int) ≤ (if (b0 : Int) = 244 then (143 : Int) else 191)) = ((if b0 = 240 then 144 else 128) ≤ b1 ∧ b1 ≤ (if b0 = 244 then 143 else 191)) := propext (by
    by_cases h1 : b0 = 240 <;> by_cases h2 : b0 = 244 <;> simp [h1, h2] <;> omega)
  simp only [p1, p2, p3, c1, c2, c3, c4, d1, d2, d3, f1, f2]
set_option maxHeartbeats 4000000 in
theorem dec_ch (b0 b1 b2 b3 m : Nat) (r0 : b0 ≤ 255) (r1 : b1 ≤ 255) (r2 : b2 ≤ 255) (r3 : b3 ≤ 255) : (chN b0 b1 b2 b3 m = 0 ∧ decN b0 b1 b2 b3 m = (65533, 1)) ∨ (∃ c, chN b0 b1 b2 b3 m ≠ 0 ∧ decN b0 b1 b2 b3 m = (c, chN b0 b1 b2 b3 m) ∧ (chN b0 b1 b2 b3 m = 1 → c < 128)) := by
  unfold chN
  by_cases a1 : b0 < 128
  · rw [if_pos a1]
    exact .inr ⟨b0, by decide, by unfold decN; rw [if_pos a1], fun _ => a1⟩
  rw [if_neg a1]
  by_cases a2 : 194 ≤ b0 ∧ b0 ≤ 223
  · rw [if_pos a2]
    by_cases h : 1 < m ∧ 128 ≤ b1 ∧ b1 ≤ 191
    · rw [if_pos h]
      refine .inr ⟨b0 % 32 * 64 + b1 % 64, by decide, ?_, fun h => absurd h (by decide)⟩
      unfold decN
      rw [if_neg a1, if_pos (by omega), if_pos (by omega)]
    · rw [if_neg h]
      refine .inl ⟨rfl, ?_⟩
      unfold decN
      rw [if_neg a1, if_neg (by omega), if_neg (by omega), if_neg (by omega)]
  rw [if_neg a2]
  by_cases a3 : 224 ≤ b0 ∧ b0 ≤ 239
  · rw [if_pos a3]
    obtain ⟨lo, hlo⟩ : ∃ lo, (if b0 = 224 then 160 else 128) = lo := ⟨_, rfl⟩
    obtain ⟨hi, hhi⟩ : ∃ hi, (if b0 = 237 then 159 else 191) = hi := ⟨_, rfl⟩
    rw [hlo, hhi]
    have l1 : (b0 = 224 ∧ lo = 160) ∨ (b0 ≠ 224 ∧ lo = 128) := by
      by_cases q : b0 = 224
      · rw [if_pos q] at hlo; omega
      · rw [if_neg q] at hlo; omega
    have l2 : (b0 = 237 ∧ hi = 159) ∨ (b0 ≠ 237 ∧ hi = 191) := by
      by_cases q : b0 = 237
      · rw [if_pos q] at hhi; omega
      · rw [if_neg q] at hhi; omega
    clear hlo hhi
    by_cases h : (1 < m ∧ lo ≤ b1 ∧ b1 ≤ hi) ∧ (2 < m ∧ 128 ≤ b2 ∧ b2 ≤ 191)
    · rw [if_pos h]
      refine .inr ⟨b0 % 16 * 4096 + b1 % 64 * 64 + b2 % 64, by decide, ?_, fun h => absurd h (by decide)⟩
      unfold decN
      rw [if_neg a1, if_neg (by omega), if_pos (by omega), if_pos (by omega)]
    · rw [if_neg h]
      refine .inl ⟨rfl, ?_⟩
      unfold decN
      rw [if_neg a1, if_neg (by omega)]
      by_cases g : (b0 / 16 = 14 ∧ (1 < m ∧ b1 / 64 = 2)) ∧ (2 < m ∧ b2 / 64 = 2)
      · rw [if_pos g, if_neg (by omega)]
      · rw [if_neg g, if_neg (by omega)]
  rw [if_neg a3]
  by_cases a4 : 240 ≤ b0 ∧ b0 ≤ 244
  · rw [if_pos a4]
    obtain ⟨lo, hlo⟩ : ∃ lo, (if b0 = 240 then 144 else 128) = lo := ⟨_, rfl⟩
    obtain ⟨hi, hhi⟩ : ∃ hi, (if b0 = 244 then 143 else 191) = hi := ⟨_, rfl⟩
    rw [hlo, hhi]
    have l1 : (b0 = 240 ∧ lo = 144) ∨ (b0 ≠ 240 ∧ lo = 128) := by
      by_cases q : b0 = 240
      · rw [if_pos q] at hlo; omega
      · rw [if_neg q] at hlo; omega
    have l2 : (b0 = 244 ∧ hi = 143) ∨ (b0 ≠ 244 ∧ hi = 191) := by
      by_cases q : b0 = 244
      · rw [if_pos q] at hhi; omega
      · rw [if_neg q] at hhi; omega
    clear hlo hhi
    by_cases h : (1 < m ∧ lo ≤ b1 ∧ b1 ≤ hi) ∧ (2 < m ∧ 128 ≤ b2 ∧ b2 ≤ 191) ∧ (3 < m ∧ 128 ≤ b3 ∧ b3 ≤ 191)
    · rw [if_pos h]
      refine .inr ⟨b0 % 8 * 262144 + b1 % 64 * 4096 + b2 % 64 * 64 + b3 % 64, by decide, ?_, fun h => absurd h (by decide)⟩
      unfold decN
      rw [if_neg a1, if_neg (by omega), if_neg (by omega), if_pos (by omega), if_pos (by omega)]
    · rw [if_neg h]
      refine .inl ⟨rfl, ?_⟩
      unfold decN
      rw [if_neg a1, if_neg (by omega), if_neg (by omega)]
      by_cases g : ((b0 / 8 = 30 ∧ (1 < m ∧ b1 / 64 = 2)) ∧ (2 < m ∧ b2 / 64 = 2)) ∧ (3 < m ∧ b3 / 64 = 2)
      · rw [if_pos g, if_neg (by omega)]
      · rw [if_neg g]
  rw [if_neg a4]
  refine .inl ⟨rfl, ?_⟩
  unfold decN
  rw [if_neg a1]
  by_cases g1 : b0 / 32 = 6 ∧ (1 < m ∧ b1 / 64 = 2)
  · rw [if_pos g1, if_neg (by omega)]
  rw [if_neg g1, if_neg (by omega)]
  by_cases g : ((b0 / 8 = 30 ∧ (1 < m ∧ b1 / 64 = 2)) ∧ (2 < m ∧ b2 / 64 = 2)) ∧ (3 < m ∧ b3 / 64 = 2)
  · rw [if_pos g, if_neg (by omega)]
  · rw [if_neg g]
/-- What Go's decoder says of the character at a place. -/
theorem dec_char (s : ByteArray) (i : Nat) (hi : i < s.size) : (charN s i = 0 ∧ Utf8.decode (s.extract i s.size) 0 = (65533, 1)) ∨ (∃ c, charN s i ≠ 0 ∧ Utf8.decode (s.extract i s.size) 0 = (c, charN s i) ∧ (charN s i = 1 → c < 128)) := by
  have hsz : (s.extract i s.size).size = s.size - i := by rw [ByteArray.size_extract]; omega
  have e0 := get_bt s i 0 (by omega)
  have e1 := get_bt s i 1 (by omega)
  have e2 := get_bt s i 2 (by omega)
  have e3 := get_bt s i 3 (by omega)
  rw [dec_is, hsz, ch_is s i hi _ _ _ _ e0 e1 e2 e3]
  exact dec_ch _ _ _ _ _ (by have := (bt_range s ((i + 0 : Nat) : Int)).2; omega) (by have := (bt_range s ((i + 1 : Nat) : Int)).2; omega) (by have := (bt_range s ((i + 2 : Nat) : Int)).2; omega) (by have := (bt_range s ((i + 3 : Nat) : Int)).2; omega)
end Go.Proofs.YtnkkbiabloodaaaDoor.Pure
