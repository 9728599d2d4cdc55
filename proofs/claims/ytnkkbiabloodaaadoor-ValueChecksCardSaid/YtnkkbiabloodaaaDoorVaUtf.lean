/- UTF-8 by the document's ranges and by Go's decoder: the same texts are valid. Plain lemmas. No conditions beside those stated. -/
import Derived.Test.YtnkkbiabloodaaaDoorGVax10
import Derived.Test.YtnkkbiabloodaaaDoorGVaValid
import Derived.Lib.ValidU
namespace Go.Proofs.YtnkkbiabloodaaaDoor.GVa
open Go.RowKit Go.Proofs.YtnkkbiabloodaaaDoor.GVa Go.Proofs.YtnkkbiabloodaaaDoorW.PrintWords Go.Proofs.YtnkkbiabloodaaaDoorW.PrintLast Go.Proofs.YtnkkbiabloodaaaDoorW.PrintMore
def okB (s : ByteArray) (j : Nat) (lo hi : Int) : Bool := decide (j < s.size) && (decide (lo ≤ bt s j) && decide (bt s j ≤ hi))
def fA (s : ByteArray) (i : Nat) : Nat :=
  if bt s i < 128 then 1
  else if 194 ≤ bt s i ∧ bt s i ≤ 223 then (if okB s (i + 1) 128 191 = true then 2 else 0)
  else if 224 ≤ bt s i ∧ bt s i ≤ 239 then (if okB s (i + 1) (if bt s i = 224 then 160 else 128) (if bt s i = 237 then 159 else 191) = true ∧ okB s (i + 2) 128 191 = true then 3 else 0)
  else if 240 ≤ bt s i ∧ bt s i ≤ 244 then (if okB s (i + 1) (if bt s i = 240 then 144 else 128) (if bt s i = 244 then 143 else 191) = true ∧ okB s (i + 2) 128 191 = true ∧ okB s (i + 3) 128 191 = true then 4 else 0)
  else 0
def chain (s : ByteArray) : Nat → Nat → Bool
  | 0, _ => true
  | n + 1, i => if i < s.size then (if fA s i = 0 then false else chain s n (i + fA s i)) else true
theorem nk (s : ByteArray) (i : Nat) (hi : i < s.size) : i + fA s i ≤ s.size ∧ fA s i ≤ 4 := by
  unfold fA okB
  simp only [Bool.and_eq_true, decide_eq_true_eq]
  repeat' split
  all_goals omega
theorem get_bt (s : ByteArray) (i k : Nat) (hi : i ≤ s.size) : (((s.extract i s.size).get! (0 + k)).toNat : Int) = bt s ((i + k : Nat) : Int) := by
  have hsz : (s.extract i s.size).size = s.size - i := by rw [ByteArray.size_extract]; omega
  unfold bt
  by_cases h : i + k < s.size
  · have h1 : 0 + k < (s.extract i s.size).size := by omega
    rw [dif_pos (by omega)]
    rw [show (s.extract i s.size).get! (0 + k) = (s.extract i s.size)[0 + k]'h1 from getElem!_pos (s.extract i s.size).data (0 + k) h1]
    have e : (s.extract i s.size)[0 + k]'h1 = s[i + k]'h := by
      simp only [ByteArray.getElem_extract]
      congr 1
      omega
    rw [e]
    rfl
  · rw [dif_neg (by omega)]
    have h1 : ¬ 0 + k < (s.extract i s.size).data.size := by
      have : (s.extract i s.size).data.size = (s.extract i s.size).size := rfl
      omega
    have e : (s.extract i s.size).get! (0 + k) = 0 := by
      cases hx : s.extract i s.size with
      | mk d =>
        rw [hx] at h1
        exact getElem!_neg d (0 + k) h1
    rw [e]
    rfl
def lg (b0 b1 b2 b3 m : Nat) : Nat × Nat :=
  if b0 < 128 then (b0, 1)
  else if b0 / 32 = 6 ∧ (1 < m ∧ b1 / 64 = 2) then (if 128 ≤ b0 % 32 * 64 + b1 % 64 then (b0 % 32 * 64 + b1 % 64, 2) else (65533, 1))
  else if (b0 / 16 = 14 ∧ (1 < m ∧ b1 / 64 = 2)) ∧ (2 < m ∧ b2 / 64 = 2) then (if 2048 ≤ b0 % 16 * 4096 + b1 % 64 * 64 + b2 % 64 ∧ (b0 % 16 * 4096 + b1 % 64 * 64 + b2 % 64 < 55296 ∨ (57344 ≤ b0 % 16 * 4096 + b1 % 64 * 64 + b2 % 64 ∧ b0 % 16 * 4096 + b1 % 64 * 64 + b2 % 64 ≤ 1114111)) then (b0 % 16 * 4096 + b1 % 64 * 64 + b2 % 64, 3) else (65533, 1))
  else if ((b0 / 8 = 30 ∧ (1 < m ∧ b1 / 64 = 2)) ∧ (2 < m ∧ b2 / 64 = 2)) ∧ (3 < m ∧ b3 / 64 = 2) then (if 65536 ≤ b0 % 8 * 262144 + b1 % 64 * 4096 + b2 % 64 * 64 + b3 % 64 ∧ (b0 % 8 * 262144 + b1 % 64 * 4096 + b2 % 64 * 64 + b3 % 64 < 55296 ∨ (57344 ≤ b0 % 8 * 262144 + b1 % 64 * 4096 + b2 % 64 * 64 + b3 % 64 ∧ b0 % 8 * 262144 + b1 % 64 * 4096 + b2 % 64 * 64 + b3 % 64 ≤ 1114111)) then (b0 % 8 * 262144 + b1 % 64 * 4096 + b2 % 64 * 64 + b3 % 64, 4) else (65533, 1))
  else (65533, 1)
theorem vS (x : ByteArray) : Utf8.decode x 0 = lg (x.get! (0 + 0)).toNat (x.get! (0 + 1)).toNat (x.get! (0 + 2)).toNat (x.get! (0 + 3)).toNat x.size := by
  unfold Utf8.decode lg Utf8.valid Utf8.runeError
  simp only [Bool.and_eq_true, Bool.or_eq_true, decide_eq_true_eq, beq_iff_eq, Nat.zero_add, ge_iff_le]
  have v : ∀ c : Nat, ((0 ≤ (c : Int) ∧ (c : Int) < 55296) ∨ (57344 ≤ (c : Int) ∧ (c : Int) ≤ 1114111)) ↔ (c < 55296 ∨ (57344 ≤ c ∧ c ≤ 1114111)) := fun c => by omega
  simp only [v]
def chN (b0 b1 b2 b3 m : Nat) : Nat :=
  if b0 < 128 then 1
  else if 194 ≤ b0 ∧ b0 ≤ 223 then (if 1 < m ∧ 128 ≤ b1 ∧ b1 ≤ 191 then 2 else 0)
  else if 224 ≤ b0 ∧ b0 ≤ 239 then (if (1 < m ∧ (if b0 = 224 then 160 else 128) ≤ b1 ∧ b1 ≤ (if b0 = 237 then 159 else 191)) ∧ (2 < m ∧ 128 ≤ b2 ∧ b2 ≤ 191) then 3 else 0)
  else if 240 ≤ b0 ∧ b0 ≤ 244 then (if (1 < m ∧ (if b0 = 240 then 144 else 128) ≤ b1 ∧ b1 ≤ (if b0 = 244 then 143 else 191)) ∧ (2 < m ∧ 128 ≤ b2 ∧ b2 ≤ 191) ∧ (3 < m ∧ 128 ≤ b3 ∧ b3 ≤ 191) then 4 else 0)
  else 0
theorem wY (s : ByteArray) (i : Nat) (hi : i < s.size) (b0 b1 b2 b3 : Nat) (e0 : (b0 : Int) = bt s i) (e1 : (b1 : Int) = bt s ((i + 1 : Nat) : Int)) (e2 : (b2 : Int) = bt s ((i + 2 : Nat) : Int)) (e3 : (b3 : Int) = bt s ((i + 3 : Nat) : Int)) : fA s i = chN b0 b1 b2 b3 (s.size - i) := by
  unfold fA okB chN
  rw [← e0, ← e1, ← e2, ← e3]
  simp only [Bool.and_eq_true, decide_eq_true_eq]
  have p1 : (i + 1 < s.size) = (1 < s.size - i) := propext (by omega)
  have p2 : (i + 2 < s.size) = (2 < s.size - i) := propext (by omega)
  have p3 : (i + 3 < s.size) = (3 < s.size - i) := propext (by omega)
  have c1 : ((b0 : Int) < 128) = (b0 < 128) := propext (by omega)
  have c2 : (194 ≤ (b0 : Int) ∧ (b0 : Int) ≤ 223) = (194 ≤ b0 ∧ b0 ≤ 223) := propext (by omega)
  have c3 : (224 ≤ (b0 : Int) ∧ (b0 : Int) ≤ 239) = (224 ≤ b0 ∧ b0 ≤ 239) := propext (by omega)
  have c4 : (240 ≤ (b0 : Int) ∧ (b0 : Int) ≤ 244) = (240 ≤ b0 ∧ b0 ≤ 244) := propext (by omega)
  have d1 : (128 ≤ (b1 : Int) ∧ (b1 : Int) ≤ 191) = (128 ≤ b1 ∧ b1 ≤ 191) := propext (by omega)
  have d2 : (128 ≤ (b2 : Int) ∧ (b2 : Int) ≤ 191) = (128 ≤ b2 ∧ b2 ≤ 191) := propext (by omega)
  have d3 : (128 ≤ (b3 : Int) ∧ (b3 : Int) ≤ 191) = (128 ≤ b3 ∧ b3 ≤ 191) := propext (by omega)
  have f1 : ((if (b0 : Int) = 224 then (160 : Int) else 128) ≤ (b1 : Int) ∧ (b1 : Int) ≤ (if (b0 : Int) = 237 then (159 : Int) else 191)) = ((if b0 = 224 then 160 else 128) ≤ b1 ∧ b1 ≤ (if b0 = 237 then 159 else 191)) := propext (by
    by_cases h1 : b0 = 224 <;> by_cases h2 : b0 = 237 <;> simp [h1, h2] <;> omega)
  have f2 : ((if (b0 : Int) = 240 then (144 : Int) else 128) ≤ (b1 : Int) ∧ (b1 : Int) ≤ (if (b0 : Int) = 244 then (143 : Int) else 191)) = ((if b0 = 240 then 144 else 128) ≤ b1 ∧ b1 ≤ (if b0 = 244 then 143 else 191)) := propext (by
    by_cases h1 : b0 = 240 <;> by_cases h2 : b0 = 244 <;> simp [h1, h2] <;> omega)
  simp only [p1, p2, p3, c1, c2, c3, c4, d1, d2, d3, f1, f2]
set_option maxHeartbeats 4000000 in
theorem vT (b0 b1 b2 b3 m : Nat) (r0 : b0 ≤ 255) (r1 : b1 ≤ 255) (r2 : b2 ≤ 255) (r3 : b3 ≤ 255) : (chN b0 b1 b2 b3 m = 0 ∧ lg b0 b1 b2 b3 m = (65533, 1)) ∨ (∃ c, chN b0 b1 b2 b3 m ≠ 0 ∧ lg b0 b1 b2 b3 m = (c, chN b0 b1 b2 b3 m) ∧ (chN b0 b1 b2 b3 m = 1 → c < 128)) := by
  unfold chN
  by_cases a1 : b0 < 128
  · rw [if_pos a1]
    exact .inr ⟨b0, by decide, by unfold lg; rw [if_pos a1], fun _ => a1⟩
  rw [if_neg a1]
  by_cases a2 : 194 ≤ b0 ∧ b0 ≤ 223
  · rw [if_pos a2]
    by_cases h : 1 < m ∧ 128 ≤ b1 ∧ b1 ≤ 191
    · rw [if_pos h]
      refine .inr ⟨b0 % 32 * 64 + b1 % 64, by decide, ?_, fun h => absurd h (by decide)⟩
      unfold lg
      rw [if_neg a1, if_pos (by omega), if_pos (by omega)]
    · rw [if_neg h]
      refine .inl ⟨rfl, ?_⟩
      unfold lg
      rw [if_neg a1, if_neg (by omega), if_neg (by omega), if_neg (by omega)]
  rw [if_neg a2]
  by_cases a3 : 224 ≤ b0 ∧ b0 ≤ 239
  · rw [if_pos a3]
    obtain ⟨lo, hlo⟩ : ∃ lo, (if b0 = 224 then 160 else 128) = lo := ⟨_, rfl⟩
    obtain ⟨hi, hhi⟩ : ∃ hi, (if b0 = 237 then 159 else 191) = hi := ⟨_, rfl⟩
    rw [hlo, hhi]
    have l1 : (b0 = 224 ∧ lo = 160) ∨ (b0 ≠ 224 ∧ lo = 128) := by
      by_cases q : b0 = 224
      · rw [if_pos q] at hlo; omega
      · rw [if_neg q] at hlo; omega
    have l2 : (b0 = 237 ∧ hi = 159) ∨ (b0 ≠ 237 ∧ hi = 191) := by
      by_cases q : b0 = 237
      · rw [if_pos q] at hhi; omega
      · rw [if_neg q] at hhi; omega
    clear hlo hhi
    by_cases h : (1 < m ∧ lo ≤ b1 ∧ b1 ≤ hi) ∧ (2 < m ∧ 128 ≤ b2 ∧ b2 ≤ 191)
    · rw [if_pos h]
      refine .inr ⟨b0 % 16 * 4096 + b1 % 64 * 64 + b2 % 64, by decide, ?_, fun h => absurd h (by decide)⟩
      unfold lg
      rw [if_neg a1, if_neg (by omega), if_pos (by omega), if_pos (by omega)]
    · rw [if_neg h]
      refine .inl ⟨rfl, ?_⟩
      unfold lg
      rw [if_neg a1, if_neg (by omega)]
      by_cases g : (b0 / 16 = 14 ∧ (1 < m ∧ b1 / 64 = 2)) ∧ (2 < m ∧ b2 / 64 = 2)
      · rw [if_pos g, if_neg (by omega)]
      · rw [if_neg g, if_neg (by omega)]
  rw [if_neg a3]
  by_cases a4 : 240 ≤ b0 ∧ b0 ≤ 244
  · rw [if_pos a4]
    obtain ⟨lo, hlo⟩ : ∃ lo, (if b0 = 240 then 144 else 128) = lo := ⟨_, rfl⟩
    obtain ⟨hi, hhi⟩ : ∃ hi, (if b0 = 244 then 143 else 191) = hi := ⟨_, rfl⟩
    rw [hlo, hhi]
    have l1 : (b0 = 240 ∧ lo = 144) ∨ (b0 ≠ 240 ∧ lo = 128) := by
      by_cases q : b0 = 240
      · rw [if_pos q] at hlo; omega
      · rw [if_neg q] at hlo; omega
    have l2 : (b0 = 244 ∧ hi = 143) ∨ (b0 ≠ 244 ∧ hi = 191) := by
      by_cases q : b0 = 244
      · rw [if_pos q] at hhi; omega
      · rw [if_neg q] at hhi; omega
    clear hlo hhi
    by_cases h : (1 < m ∧ lo ≤ b1 ∧ b1 ≤ hi) ∧ (2 < m ∧ 128 ≤ b2 ∧ b2 ≤ 191) ∧ (3 < m ∧ 128 ≤ b3 ∧ b3 ≤ 191)
    · rw [if_pos h]
      refine .inr ⟨b0 % 8 * 262144 + b1 % 64 * 4096 + b2 % 64 * 64 + b3 % 64, by decide, ?_, fun h => absurd h (by decide)⟩
      unfold lg
      rw [if_neg a1, if_neg (by omega), if_neg (by omega), if_pos (by omega), if_pos (by omega)]
    · rw [if_neg h]
      refine .inl ⟨rfl, ?_⟩
      unfold lg
      rw [if_neg a1, if_neg (by omega), if_neg (by omega)]
      by_cases g : ((b0 / 8 = 30 ∧ (1 < m ∧ b1 / 64 = 2)) ∧ (2 < m ∧ b2 / 64 = 2)) ∧ (3 < m ∧ b3 / 64 = 2)
      · rw [if_pos g, if_neg (by omega)]
      · rw [if_neg g]
  rw [if_neg a4]
  refine .inl ⟨rfl, ?_⟩
  unfold lg
  rw [if_neg a1]
  by_cases g1 : b0 / 32 = 6 ∧ (1 < m ∧ b1 / 64 = 2)
  · rw [if_pos g1, if_neg (by omega)]
  rw [if_neg g1, if_neg (by omega)]
  by_cases g : ((b0 / 8 = 30 ∧ (1 < m ∧ b1 / 64 = 2)) ∧ (2 < m ∧ b2 / 64 = 2)) ∧ (3 < m ∧ b3 / 64 = 2)
  · rw [if_pos g, if_neg (by omega)]
  · rw [if_neg g]
theorem sQ (s : ByteArray) (i : Nat) (hi : i < s.size) : (fA s i = 0 ∧ Utf8.decode (s.extract i s.size) 0 = (65533, 1)) ∨ (∃ c, fA s i ≠ 0 ∧ Utf8.decode (s.extract i s.size) 0 = (c, fA s i) ∧ (fA s i = 1 → c < 128)) := by
  have hsz : (s.extract i s.size).size = s.size - i := by rw [ByteArray.size_extract]; omega
  have e0 := get_bt s i 0 (by omega)
  have e1 := get_bt s i 1 (by omega)
  have e2 := get_bt s i 2 (by omega)
  have e3 := get_bt s i 3 (by omega)
  rw [vS, hsz, wY s i hi _ _ _ _ e0 e1 e2 e3]
  exact vT _ _ _ _ _ (by have := (jk s ((i + 0 : Nat) : Int)).2; omega) (by have := (jk s ((i + 1 : Nat) : Int)).2; omega) (by have := (jk s ((i + 2 : Nat) : Int)).2; omega) (by have := (jk s ((i + 3 : Nat) : Int)).2; omega)
theorem uI (k : Nat) (s : ByteArray) (i x : Nat) (lo hi : Int) (n : Nat) (hs : s.size ≤ 1000000000) (hi' : i ≤ s.size) (hx : x ≤ n) (hn : n ≤ 3) :
    aK.l1 (k + 1) s (i : Int) lo hi (n : Int) (x : Int) = if okB s (i + x) lo hi = true then aK.l1 k s (i : Int) 128 191 (n : Int) ((x + 1 : Nat) : Int) else some false := by
  have hw : wrap64 ((i : Int) + (x : Int)) = ((i + x : Nat) : Int) := by rw [dA (by omega) (by omega)]; omega
  have hw2 : wrap64 ((x : Int) + 1) = ((x + 1 : Nat) : Int) := by rw [dA (by omega) (by omega)]; omega
  rw [aK.l1, if_pos (show (x : Int) ≤ (n : Int) by omega), hw, hw2]
  unfold okB
  by_cases h1 : i + x < s.size
  · rw [if_neg (show ¬ ((i + x : Nat) : Int) ≥ (s.size : Int) by omega), if_pos (show 0 ≤ ((i + x : Nat) : Int) by omega), if_pos (show ((i + x : Nat) : Int) < (s.size : Int) by omega), decide_eq_true h1, Bool.true_and]
    by_cases h2 : bt s ((i + x : Nat) : Int) < lo
    · rw [if_pos h2, decide_eq_false (show ¬ lo ≤ bt s ((i + x : Nat) : Int) by omega), Bool.false_and, if_neg (by decide)]
    · rw [if_neg h2, decide_eq_true (show lo ≤ bt s ((i + x : Nat) : Int) by omega), Bool.true_and]
      by_cases h3 : bt s ((i + x : Nat) : Int) > hi
      · rw [if_pos h3, decide_eq_false (show ¬ bt s ((i + x : Nat) : Int) ≤ hi by omega), if_neg (by decide)]
      · rw [if_neg h3, decide_eq_true (show bt s ((i + x : Nat) : Int) ≤ hi by omega), if_pos rfl]
  · rw [if_pos (show ((i + x : Nat) : Int) ≥ (s.size : Int) by omega), decide_eq_false h1, Bool.false_and, if_neg (by decide)]
theorem nV (k : Nat) (s : ByteArray) (i n : Nat) (lo hi : Int) (hs : s.size ≤ 1000000000) (hi' : i ≤ s.size) (hn : n ≤ 3) :
    aK.l1 (k + 1) s (i : Int) lo hi (n : Int) ((n + 1 : Nat) : Int) = aK.l0 k s ((i + (n + 1) : Nat) : Int) := by
  have hw : wrap64 (wrap64 ((i : Int) + 1) + (n : Int)) = ((i + (n + 1) : Nat) : Int) := by rw [dA (x := (i : Int) + 1) (by omega) (by omega), dA (by omega) (by omega)]; omega
  rw [aK.l1, if_neg (show ¬ ((n + 1 : Nat) : Int) ≤ (n : Int) by omega), hw]
theorem qR (k : Nat) (s : ByteArray) (i : Nat) (hs : s.size ≤ 1000000000) (hi : i < s.size) (b : Bool) (hb : ∀ k', k ≤ k' → fA s i ≠ 0 → aK.l0 k' s ((i + fA s i : Nat) : Int) = some b) :
    aK.l0 (k + 10) s (i : Int) = some (if fA s i = 0 then false else b) := by
  rw [aK.l0, if_pos (show (i : Int) < (s.size : Int) by omega), if_pos (show 0 ≤ (i : Int) by omega)]
  have hi' : i ≤ s.size := by omega
  have L0 := fun k lo hi => nV k s i 0 lo hi hs hi' (by omega)
  have L1 := fun k lo hi => nV k s i 1 lo hi hs hi' (by omega)
  have L2 := fun k lo hi => nV k s i 2 lo hi hs hi' (by omega)
  have L3 := fun k lo hi => nV k s i 3 lo hi hs hi' (by omega)
  have S := fun k x lo hi n h1 h2 => uI k s i x lo hi n hs hi' h1 h2
  have xS : ∀ k' lo hi, k ≤ k' → (okB s (i + 1) lo hi = true → fA s i = 2) → (okB s (i + 1) lo hi = false → fA s i = 0) → aK.j4 (k' + 3) s (i : Int) lo hi 1 = some (if fA s i = 0 then false else b) := by
    intro k' lo hi hk h1 h2
    rw [aK.j4]
    refine (S (k' + 1) 1 lo hi 1 (by omega) (by omega)).trans ?_
    cases hc : okB s (i + 1) lo hi with
    | false => rw [if_neg (by decide), h2 hc, if_pos rfl]
    | true =>
      rw [if_pos rfl]
      refine (L1 k' 128 191).trans ?_
      have := hb k' hk (by rw [h1 hc]; decide)
      rw [h1 hc] at this ⊢
      rw [if_neg (by decide)]
      exact this
  have xU : ∀ k' lo hi, k ≤ k' → (okB s (i + 1) lo hi = true → okB s (i + 2) 128 191 = true → fA s i = 3) → (okB s (i + 1) lo hi = false ∨ okB s (i + 2) 128 191 = false → fA s i = 0) → aK.j4 (k' + 4) s (i : Int) lo hi 2 = some (if fA s i = 0 then false else b) := by
    intro k' lo hi hk h1 h2
    rw [aK.j4]
    refine (S (k' + 2) 1 lo hi 2 (by omega) (by omega)).trans ?_
    cases hc : okB s (i + 1) lo hi with
    | false => rw [if_neg (by decide), h2 (.inl hc), if_pos rfl]
    | true =>
      rw [if_pos rfl]
      refine (S (k' + 1) 2 128 191 2 (by omega) (by omega)).trans ?_
      cases hd : okB s (i + 2) 128 191 with
      | false => rw [if_neg (by decide), h2 (.inr hd), if_pos rfl]
      | true =>
        rw [if_pos rfl]
        refine (L2 k' 128 191).trans ?_
        have := hb k' hk (by rw [h1 hc hd]; decide)
        rw [h1 hc hd] at this ⊢
        rw [if_neg (by decide)]
        exact this
  have xV : ∀ k' lo hi, k ≤ k' → (okB s (i + 1) lo hi = true → okB s (i + 2) 128 191 = true → okB s (i + 3) 128 191 = true → fA s i = 4) → (okB s (i + 1) lo hi = false ∨ okB s (i + 2) 128 191 = false ∨ okB s (i + 3) 128 191 = false → fA s i = 0) → aK.j4 (k' + 5) s (i : Int) lo hi 3 = some (if fA s i = 0 then false else b) := by
    intro k' lo hi hk h1 h2
    rw [aK.j4]
    refine (S (k' + 3) 1 lo hi 3 (by omega) (by omega)).trans ?_
    cases hc : okB s (i + 1) lo hi with
    | false => rw [if_neg (by decide), h2 (.inl hc), if_pos rfl]
    | true =>
      rw [if_pos rfl]
      refine (S (k' + 2) 2 128 191 3 (by omega) (by omega)).trans ?_
      cases hd : okB s (i + 2) 128 191 with
      | false => rw [if_neg (by decide), h2 (.inr (.inl hd)), if_pos rfl]
      | true =>
        rw [if_pos rfl]
        refine (S (k' + 1) 3 128 191 3 (by omega) (by omega)).trans ?_
        cases he : okB s (i + 3) 128 191 with
        | false => rw [if_neg (by decide), h2 (.inr (.inr he)), if_pos rfl]
        | true =>
          rw [if_pos rfl]
          refine (L3 k' 128 191).trans ?_
          have := hb k' hk (by rw [h1 hc hd he]; decide)
          rw [h1 hc hd he] at this ⊢
          rw [if_neg (by decide)]
          exact this
  by_cases a1 : bt s i < 128
  · have hc : fA s i = 1 := by unfold fA; rw [if_pos a1]
    rw [if_pos a1, aK.j4]
    refine (L0 (k + 7) 128 191).trans ?_
    have := hb (k + 7) (by omega) (by rw [hc]; decide)
    rw [hc] at this ⊢
    rw [if_neg (by decide)]
    exact this
  rw [if_neg a1]
  have e1 : fA s i = if 194 ≤ bt s i ∧ bt s i ≤ 223 then (if okB s (i + 1) 128 191 = true then 2 else 0)
      else if 224 ≤ bt s i ∧ bt s i ≤ 239 then (if okB s (i + 1) (if bt s i = 224 then 160 else 128) (if bt s i = 237 then 159 else 191) = true ∧ okB s (i + 2) 128 191 = true then 3 else 0)
      else if 240 ≤ bt s i ∧ bt s i ≤ 244 then (if okB s (i + 1) (if bt s i = 240 then 144 else 128) (if bt s i = 244 then 143 else 191) = true ∧ okB s (i + 2) 128 191 = true ∧ okB s (i + 3) 128 191 = true then 4 else 0)
      else 0 := by unfold fA; rw [if_neg a1]
  have hr := jk s i
  have j1 : ∀ x, x = decide (194 ≤ bt s i ∧ bt s i ≤ 223) → aK.j1 (k + 9) s (i : Int) (bt s i) 128 191 x = some (if fA s i = 0 then false else b) := by
    intro x hx
    rw [aK.j1]
    by_cases a2 : 194 ≤ bt s i ∧ bt s i ≤ 223
    · rw [decide_eq_true a2] at hx
      rw [if_pos a2] at e1
      rw [if_pos hx]
      exact xS (k + 5) 128 191 (by omega) (fun h => by rw [e1, if_pos h]) (fun h => by rw [e1, if_neg (by rw [h]; decide)])
    rw [decide_eq_false a2] at hx
    rw [if_neg a2] at e1
    rw [hx, if_neg (show ¬ (false = true) by decide)]
    have j2 : ∀ y, y = decide (224 ≤ bt s i ∧ bt s i ≤ 239) → aK.j2 (k + 8) s (i : Int) (bt s i) 128 191 y = some (if fA s i = 0 then false else b) := by
      intro y hy
      rw [aK.j2]
      by_cases a3 : 224 ≤ bt s i ∧ bt s i ≤ 239
      · rw [decide_eq_true a3] at hy
        rw [if_pos a3] at e1
        rw [if_pos hy]
        have fin : ∀ lo hi, lo = (if bt s i = 224 then (160 : Int) else 128) → hi = (if bt s i = 237 then (159 : Int) else 191) → aK.j4 (k + 7) s (i : Int) lo hi 2 = some (if fA s i = 0 then false else b) := by
          intro lo hi hlo hhi
          rw [← hlo, ← hhi] at e1
          exact xU (k + 3) lo hi (by omega) (fun h h' => by rw [e1, if_pos ⟨h, h'⟩]) (fun h => by
            rw [e1, if_neg]
            rintro ⟨h1, h2⟩
            rcases h with h | h
            · rw [h] at h1; cases h1
            · rw [h] at h2; cases h2)
        by_cases b1 : bt s i = 224
        · rw [if_pos b1]
          by_cases b2 : bt s i = 237
          · rw [if_pos b2]; exact fin _ _ (by rw [if_pos b1]) (by rw [if_pos b2])
          · rw [if_neg b2]; exact fin _ _ (by rw [if_pos b1]) (by rw [if_neg b2])
        · rw [if_neg b1]
          by_cases b2 : bt s i = 237
          · rw [if_pos b2]; exact fin _ _ (by rw [if_neg b1]) (by rw [if_pos b2])
          · rw [if_neg b2]; exact fin _ _ (by rw [if_neg b1]) (by rw [if_neg b2])
      rw [decide_eq_false a3] at hy
      rw [if_neg a3] at e1
      rw [hy, if_neg (show ¬ (false = true) by decide)]
      have j3 : ∀ z, z = decide (240 ≤ bt s i ∧ bt s i ≤ 244) → aK.j3 (k + 7) s (i : Int) (bt s i) 128 191 z = some (if fA s i = 0 then false else b) := by
        intro z hz
        rw [aK.j3]
        by_cases a4 : 240 ≤ bt s i ∧ bt s i ≤ 244
        · rw [decide_eq_true a4] at hz
          rw [if_pos a4] at e1
          rw [if_pos hz]
          have fin : ∀ lo hi, lo = (if bt s i = 240 then (144 : Int) else 128) → hi = (if bt s i = 244 then (143 : Int) else 191) → aK.j4 (k + 6) s (i : Int) lo hi 3 = some (if fA s i = 0 then false else b) := by
            intro lo hi hlo hhi
            rw [← hlo, ← hhi] at e1
            exact xV (k + 1) lo hi (by omega) (fun h h' h'' => by rw [e1, if_pos ⟨h, h', h''⟩]) (fun h => by
              rw [e1, if_neg]
              rintro ⟨h1, h2, h3⟩
              rcases h with h | h | h
              · rw [h] at h1; cases h1
              · rw [h] at h2; cases h2
              · rw [h] at h3; cases h3)
          by_cases b1 : bt s i = 240
          · rw [if_pos b1]
            by_cases b2 : bt s i = 244
            · rw [if_pos b2]; exact fin _ _ (by rw [if_pos b1]) (by rw [if_pos b2])
            · rw [if_neg b2]; exact fin _ _ (by rw [if_pos b1]) (by rw [if_neg b2])
          · rw [if_neg b1]
            by_cases b2 : bt s i = 244
            · rw [if_pos b2]; exact fin _ _ (by rw [if_neg b1]) (by rw [if_pos b2])
            · rw [if_neg b2]; exact fin _ _ (by rw [if_neg b1]) (by rw [if_neg b2])
        rw [decide_eq_false a4] at hz
        rw [if_neg a4] at e1
        rw [hz, if_neg (show ¬ (false = true) by decide), e1, if_pos rfl]
      by_cases c1 : bt s i ≥ 240
      · rw [if_pos c1]; exact j3 _ (by by_cases c2 : bt s i ≤ 244 <;> simp [c2] <;> omega)
      · rw [if_neg c1]; exact j3 _ (by symm; exact decide_eq_false (by omega))
    by_cases c1 : bt s i ≥ 224
    · rw [if_pos c1]; exact j2 _ (by by_cases c2 : bt s i ≤ 239 <;> simp [c2] <;> omega)
    · rw [if_neg c1]; exact j2 _ (by symm; exact decide_eq_false (by omega))
  by_cases c1 : bt s i ≥ 194
  · rw [if_pos c1]; exact j1 _ (by by_cases c2 : bt s i ≤ 223 <;> simp [c2] <;> omega)
  · rw [if_neg c1]; exact j1 _ (by symm; exact decide_eq_false (by omega))
theorem oM (s : ByteArray) (hs : s.size ≤ 1000000000) : ∀ (n i k : Nat), i ≤ s.size → s.size - i ≤ n → 10 * n + 20 ≤ k → aK.l0 k s (i : Int) = some (chain s n i)
  | 0, i, k, hi, hn, hk => by
    obtain ⟨k, rfl⟩ : ∃ j, k = j + 1 := ⟨k - 1, by omega⟩
    rw [aK.l0, if_neg (show ¬ (i : Int) < (s.size : Int) by omega)]
    rfl
  | n + 1, i, k, hi, hn, hk => by
    by_cases h : i < s.size
    · obtain ⟨k, rfl⟩ : ∃ j, k = j + 10 := ⟨k - 10, by omega⟩
      have hf := nk s i h
      rw [qR k s i hs h (chain s n (i + fA s i)) (fun k' hk' hne => oM s hs n (i + fA s i) k' hf.1 (by omega) (by omega)), chain, if_pos h]
    · obtain ⟨k, rfl⟩ : ∃ j, k = j + 1 := ⟨k - 1, by omega⟩
      rw [aK.l0, if_neg (show ¬ (i : Int) < (s.size : Int) by omega), chain, if_neg h]
theorem vU (s : ByteArray) (hs : s.size ≤ 1000000000) (k : Nat) (hk : 10 * s.size + 20 ≤ k) : aK.f k s = some (chain s s.size 0) :=
  oM s hs s.size 0 k (by omega) (by omega) hk
theorem qU (s : ByteArray) (a : Nat) : (s.extract a s.size).data.toList = s.data.toList.drop a := by
  rw [ByteArray.data_extract, Array.toList_extract]
  show (s.data.toList.drop a).take (s.data.size - a) = _
  rw [List.take_of_length_le (by rw [List.length_drop, Array.length_toList]; exact Nat.le_refl _)]
theorem uJ (s : ByteArray) (i : Nat) : Lib.decodeL (s.data.toList.drop i) = Utf8.decode (s.extract i s.size) 0 := by
  unfold Lib.decodeL
  congr 1
  apply ByteArray.ext
  apply Array.ext'
  rw [qU]
theorem mH (s : ByteArray) : ∀ (n i : Nat), i ≤ s.size → s.size - i ≤ n → Lib.validGoD n (s.data.toList.drop i) = chain s n i
  | 0, _, _, _ => rfl
  | n + 1, i, hi, hn => by
    have hl : s.data.toList.length = s.size := Array.length_toList
    rw [Lib.validGoD, chain]
    by_cases h : i < s.size
    · have hne : ¬ s.data.toList.drop i = [] := fun e => by
        have := congrArg List.length e
        rw [List.length_drop, hl] at this
        simp at this
        omega
      have hf := nk s i h
      rw [if_neg hne, if_pos h, uJ]
      rcases sQ s i h with ⟨h0, hd⟩ | ⟨c, h0, hd, h1⟩
      · rw [hd, if_pos h0, if_pos ⟨rfl, rfl⟩]
      · rw [hd, if_neg h0, if_neg (fun q => by
          have := h1 q.2
          have := q.1
          simp only [] at this
          omega), List.drop_drop]
        exact mH s n (i + fA s i) hf.1 (by omega)
    · rw [if_pos (List.drop_eq_nil_of_le (by omega)), if_neg h]
theorem sS (s : ByteArray) (hs : s.size ≤ 1000000000) : utf8_ValidString.f s = some (chain s s.size 0) := by
  have hl : s.data.toList.length = s.size := Array.length_toList
  rw [utf8_ValidString.f, if_pos (by omega), Lib.validD, hl]
  have := mH s s.size 0 (by omega) (by omega)
  rw [List.drop_zero] at this
  rw [this]
theorem qV (s : ByteArray) (hs : s.size ≤ 1000000000) (k : Nat) (hk : 10 * s.size + 20 ≤ k) : aK.f k s = some (Lib.validD s.data.toList) := by
  rw [vU s hs k hk]
  have h := sS s hs
  rw [utf8_ValidString.f, if_pos (by omega)] at h
  exact h.symm
end Go.Proofs.YtnkkbiabloodaaaDoor.GVa
