/- File names of ckone: the program's test and the document's are one. Plain lemmas. No conditions beside those stated. -/
import Derived.Test.YtpmbdcljphpcnaaDoorGCkx3
import Derived.Test.YtpmbdcljphpcnaaDoorGCkx5
import Derived.Test.YtpmbdcljphpcnaaDoorGCkName
import Derived.Laws.Strings
namespace Go.Proofs.YtpmbdcljphpcnaaDoor.Pure
open Go.RowKit Go.Proofs.YtpmbdcljphpcnaaDoor.GCk Go.Proofs.YtpmbdcljphpcnaaDoorW.PrintWords Go.Proofs.YtpmbdcljphpcnaaDoorW.PrintLast Go.Proofs.YtpmbdcljphpcnaaDoorW.PrintMore

/-- A loop over places that goes on while a test holds. -/
theorem all_loop (n : Nat) (f : Nat → Int → Option Bool) (ok : Nat → Bool) (e : Bool) (hstep : ∀ k (i : Nat), i < n → f (k + 1) (i : Int) = if ok i = true then f k ((i + 1 : Nat) : Int) else some false) (hend : ∀ k, f (k + 1) (n : Int) = some e) :
    ∀ (m i k : Nat), i + m = n → m < k → f k (i : Int) = some ((List.range' i m).all ok && e)
  | 0, i, k, h, hk => by
    obtain ⟨k, rfl⟩ : ∃ k', k = k' + 1 := ⟨k - 1, by omega⟩
    obtain rfl : i = n := h
    rw [hend]
    simp
  | m + 1, i, k, h, hk => by
    obtain ⟨k, rfl⟩ : ∃ k', k = k' + 1 := ⟨k - 1, by omega⟩
    rw [hstep k i (by omega), all_loop n f ok e hstep hend m (i + 1) k (by omega) (by omega), List.range'_succ, List.all_cons]
    cases ok i <;> simp

/-- The signs of a file's name. -/
def chF (b : Int) : Bool := (decide (97 ≤ b) && decide (b ≤ 122)) || (decide (48 ≤ b) && decide (b ≤ 57)) || decide (b = 46) || decide (b = 95) || decide (b = 45) || decide (b = 47)
theorem idx4 (b : Int) (h : 0 ≤ b ∧ b ≤ 255) : Lib.indexByte [46, 95, 45, 47] b.toNat.toUInt8 < 0 ↔ ¬ (b = 46 ∨ b = 95 ∨ b = 45 ∨ b = 47) := by
  have hall : (List.range 256).all (fun n => decide (Lib.indexByte [46, 95, 45, 47] n.toUInt8 < 0) == decide (¬ (n = 46 ∨ n = 95 ∨ n = 45 ∨ n = 47))) = true := by decide +kernel
  obtain ⟨n, rfl⟩ := Int.eq_ofNat_of_zero_le h.1
  have := List.all_eq_true.1 hall n (List.mem_range.2 (by omega))
  rw [beq_iff_eq, decide_eq_decide] at this
  rw [Int.toNat_natCast, this]
  omega
theorem file_step (k : Nat) (s : ByteArray) (i : Nat) (hi : i < s.size) (hs : s.size ≤ 140737488351232) : ckone_File.l0 (k + 1) s (s.size : Int) (i : Int) = if chF (bt s i) = true then ckone_File.l0 k s (s.size : Int) ((i + 1 : Nat) : Int) else some false := by
  rw [ckone_File.l0, if_pos (by omega), if_pos (by omega), if_pos (by omega), i64_id (by omega) (by omega)]
  have hb := bt_range s i
  have hx := idx4 (bt s i) hb
  generalize bt s i = b at hb hx ⊢
  simp only [strings_IndexByte.f, Option.bind_some]
  generalize Lib.indexByte [46, 95, 45, 47] b.toNat.toUInt8 = t at hx ⊢
  have hn : ((i : Int) + 1) = ((i + 1 : Nat) : Int) := rfl
  rw [hn]
  generalize ckone_File.l0 k s (s.size : Int) ((i + 1 : Nat) : Int) = X
  have hc : chF b = true ↔ ((97 ≤ b ∧ b ≤ 122) ∨ (48 ≤ b ∧ b ≤ 57) ∨ b = 46 ∨ b = 95 ∨ b = 45 ∨ b = 47) := by simp [chF, or_assoc]
  clear hn hs hi
  by_cases h : chF b = true
  · rw [if_pos h]
    have h' := hc.1 h
    repeat' split
    all_goals first | rfl | (exfalso; omega)
  · rw [if_neg h]
    have h' : ¬ ((97 ≤ b ∧ b ≤ 122) ∨ (48 ≤ b ∧ b ≤ 57) ∨ b = 46 ∨ b = 95 ∨ b = 45 ∨ b = 47) := fun q => h (hc.2 q)
    repeat' split
    all_goals first | rfl | (exfalso; omega)
/-- Is it a file's name? -/
def fileB (s : ByteArray) : Bool := (List.range' 0 s.size).all (fun j => chF (bt s j)) && (decide (1 ≤ s.size) && decide (s.size ≤ 64))
theorem file_is (k : Nat) (s : ByteArray) (hs : s.size ≤ 140737488351232) (hk : s.size < k) : ckone_File.f k s = some (fileB s) := by
  refine all_loop s.size (fun k i => ckone_File.l0 k s (s.size : Int) i) (fun j => chF (bt s j)) (decide (1 ≤ s.size) && decide (s.size ≤ 64)) (fun k i hi => file_step k s i hi hs) (fun k => ?_) s.size 0 k (by omega) hk
  show ckone_File.l0 (k + 1) s (s.size : Int) (s.size : Int) = _
  rw [ckone_File.l0, if_neg (by omega)]
  by_cases h0 : s.toList = ([] : List UInt8)
  · rw [if_pos h0]
    have : s.size = 0 := by
      rw [ByteArray.toList_eq] at h0
      have := congrArg List.length h0
      rw [Array.length_toList] at this
      exact this
    simp [this]
  · rw [if_neg h0]
    have : 1 ≤ s.size := Nat.one_le_iff_ne_zero.2 fun h => h0 (by rw [ByteArray.toList_eq]; exact List.eq_nil_of_length_eq_zero (by rw [Array.length_toList]; exact h))
    simp [this]
    omega
def chL (b : Int) : Bool := (decide (97 ≤ b) && decide (b ≤ 122)) || (decide (48 ≤ b) && decide (b ≤ 57)) || decide (b = 45)
theorem label_step (k : Nat) (s : ByteArray) (i : Nat) (hi : i < s.size) (hs : s.size ≤ 140737488351232) : dns_Label.l0 (k + 1) s (s.size : Int) (i : Int) = if chL (bt s i) = true then dns_Label.l0 k s (s.size : Int) ((i + 1 : Nat) : Int) else some false := by
  rw [dns_Label.l0, if_pos (by omega), if_pos (by omega), if_pos (by omega), i64_id (by omega) (by omega)]
  have hn : ((i : Int) + 1) = ((i + 1 : Nat) : Int) := rfl
  rw [hn]
  generalize bt s i = b
  generalize dns_Label.l0 k s (s.size : Int) ((i + 1 : Nat) : Int) = X
  have h1 : dns_small.f b = some (decide (97 ≤ b) && decide (b ≤ 122)) := by
    unfold dns_small.f
    by_cases h : 97 ≤ b <;> simp [h]
  have h2 : dns_digit.f b = some (decide (48 ≤ b) && decide (b ≤ 57)) := by
    unfold dns_digit.f
    by_cases h : 48 ≤ b <;> simp [h]
  rw [h1, h2, chL]
  simp only [Option.bind_some]
  cases (decide (97 ≤ b) && decide (b ≤ 122)) <;> cases (decide (48 ≤ b) && decide (b ≤ 57)) <;> by_cases h : b = 45 <;> simp [h]
/-- Is it a label? -/
def labB (s : ByteArray) : Bool := decide (1 ≤ s.size) && (decide (s.size ≤ 63) && ((List.range' 0 s.size).all (fun j => chL (bt s j)) && (decide (bt s 0 ≠ 45) && decide (bt s ((s.size : Int) - 1) ≠ 45))))
theorem label_is (k : Nat) (s : ByteArray) (hs : s.size ≤ 140737488351232) (hk : s.size + 1 < k) : dns_Label.f k s = some (labB s) := by
  have hj : ∀ x : Bool, dns_Label.j0 k s x = some ((List.range' 0 s.size).all (fun j => chL (bt s j)) && !x) := by
    intro x
    obtain ⟨k, rfl⟩ : ∃ k', k = k' + 1 := ⟨k - 1, by omega⟩
    cases x with
    | true => rw [dns_Label.j0, if_pos rfl]; simp
    | false =>
      rw [dns_Label.j0, if_neg (by decide)]
      refine (all_loop s.size (fun k i => dns_Label.l0 k s (s.size : Int) i) (fun j => chL (bt s j)) true (fun k i hi => label_step k s i hi hs) (fun k => ?_) s.size 0 k (by omega) (by omega)).trans (by simp)
      show dns_Label.l0 (k + 1) s (s.size : Int) (s.size : Int) = _
      rw [dns_Label.l0, if_neg (by omega)]
  rw [dns_Label.f, labB]
  by_cases h0 : s.toList = ([] : List UInt8)
  · rw [if_pos h0, hj]
    have : s.size = 0 := by
      rw [ByteArray.toList_eq] at h0
      have := congrArg List.length h0
      rw [Array.length_toList] at this
      exact this
    simp [this]
  have h1 : 1 ≤ s.size := Nat.one_le_iff_ne_zero.2 fun h => h0 (by rw [ByteArray.toList_eq]; exact List.eq_nil_of_length_eq_zero (by rw [Array.length_toList]; exact h))
  rw [if_neg h0]
  by_cases h63 : (s.size : Int) > 63
  · rw [if_pos h63, hj]
    have : ¬ s.size ≤ 63 := by omega
    simp [this]
  have h63' : s.size ≤ 63 := by omega
  rw [if_neg h63, if_pos (by omega)]
  by_cases hf : bt s 0 = 45
  · rw [if_pos hf, hj]
    simp [hf]
  rw [if_neg hf, i64_id (by omega) (by omega), if_pos (by omega), if_pos (by omega), hj]
  by_cases hl : bt s ((s.size : Int) - 1) = 45
  · simp [hl]
  · have : (bt s ((s.size : Int) - 1) == 45) = false := beq_eq_false_iff_ne.2 hl
    rw [this]
    simp [h1, h63', hf, hl]
def chI (b : Int) : Bool := (decide (97 ≤ b) && decide (b ≤ 122)) || (decide (65 ≤ b) && decide (b ≤ 90)) || (decide (48 ≤ b) && decide (b ≤ 57)) || decide (b = 46) || decide (b = 95) || decide (b = 45) || decide (b = 47) || decide (b = 58) || decide (b = 64)
def chH (b : Int) : Bool := (decide (97 ≤ b) && decide (b ≤ 122)) || (decide (48 ≤ b) && decide (b ≤ 57))
theorem idx6 (b : Int) (h : 0 ≤ b ∧ b ≤ 255) : Lib.indexByte [46, 95, 45, 47, 58, 64] b.toNat.toUInt8 < 0 ↔ ¬ (b = 46 ∨ b = 95 ∨ b = 45 ∨ b = 47 ∨ b = 58 ∨ b = 64) := by
  have hall : (List.range 256).all (fun n => decide (Lib.indexByte [46, 95, 45, 47, 58, 64] n.toUInt8 < 0) == decide (¬ (n = 46 ∨ n = 95 ∨ n = 45 ∨ n = 47 ∨ n = 58 ∨ n = 64))) = true := by decide +kernel
  obtain ⟨n, rfl⟩ := Int.eq_ofNat_of_zero_le h.1
  have := List.all_eq_true.1 hall n (List.mem_range.2 (by omega))
  rw [beq_iff_eq, decide_eq_decide] at this
  rw [Int.toNat_natCast, this]
  omega
theorem small_is (b : Int) : dns_small.f b = some (decide (97 ≤ b) && decide (b ≤ 122)) := by
  unfold dns_small.f
  by_cases h : 97 ≤ b <;> simp [h]
theorem great_is (b : Int) : dns_great.f b = some (decide (65 ≤ b) && decide (b ≤ 90)) := by
  unfold dns_great.f
  by_cases h : 65 ≤ b <;> simp [h]
theorem digit_is (b : Int) : dns_digit.f b = some (decide (48 ≤ b) && decide (b ≤ 57)) := by
  unfold dns_digit.f
  by_cases h : 48 ≤ b <;> simp [h]
theorem image_step (k : Nat) (s : ByteArray) (i : Nat) (hi : i < s.size) (hs : s.size ≤ 140737488351232) : dns_Image.l0 (k + 1) s (s.size : Int) (i : Int) = if chI (bt s i) = true then dns_Image.l0 k s (s.size : Int) ((i + 1 : Nat) : Int) else some false := by
  rw [dns_Image.l0, if_pos (by omega), if_pos (by omega), if_pos (by omega), i64_id (by omega) (by omega)]
  have hb := bt_range s i
  have hx := idx6 (bt s i) hb
  generalize bt s i = b at hb hx ⊢
  simp only [strings_IndexByte.f, small_is, great_is, digit_is, Option.bind_some]
  generalize Lib.indexByte [46, 95, 45, 47, 58, 64] b.toNat.toUInt8 = t at hx ⊢
  have hn : ((i : Int) + 1) = ((i + 1 : Nat) : Int) := rfl
  rw [hn]
  generalize dns_Image.l0 k s (s.size : Int) ((i + 1 : Nat) : Int) = X
  have hc : chI b = true ↔ ((97 ≤ b ∧ b ≤ 122) ∨ (65 ≤ b ∧ b ≤ 90) ∨ (48 ≤ b ∧ b ≤ 57) ∨ b = 46 ∨ b = 95 ∨ b = 45 ∨ b = 47 ∨ b = 58 ∨ b = 64) := by simp [chI, or_assoc]
  clear hn hs hi
  simp only [Bool.and_eq_true, decide_eq_true_eq]
  by_cases h : chI b = true
  · rw [if_pos h]
    have h' := hc.1 h
    repeat' split
    all_goals first | rfl | (exfalso; omega)
  · rw [if_neg h]
    have h' : ¬ ((97 ≤ b ∧ b ≤ 122) ∨ (65 ≤ b ∧ b ≤ 90) ∨ (48 ≤ b ∧ b ≤ 57) ∨ b = 46 ∨ b = 95 ∨ b = 45 ∨ b = 47 ∨ b = 58 ∨ b = 64) := fun q => h (hc.2 q)
    repeat' split
    all_goals first | rfl | (exfalso; omega)
/-- Is it an image's name? -/
def imgB (s : ByteArray) : Bool := decide (1 ≤ s.size) && (decide (s.size ≤ 255) && ((List.range' 0 s.size).all (fun j => chI (bt s j)) && chH (bt s 0)))
theorem image_is (k : Nat) (s : ByteArray) (hs : s.size ≤ 140737488351232) (hk : s.size + 1 < k) : dns_Image.f k s = some (imgB s) := by
  have hj : ∀ x : Bool, dns_Image.j0 k s x = some ((List.range' 0 s.size).all (fun j => chI (bt s j)) && !x) := by
    intro x
    obtain ⟨k, rfl⟩ : ∃ k', k = k' + 1 := ⟨k - 1, by omega⟩
    cases x with
    | true => rw [dns_Image.j0, if_pos rfl]; simp
    | false =>
      rw [dns_Image.j0, if_neg (by decide)]
      refine (all_loop s.size (fun k i => dns_Image.l0 k s (s.size : Int) i) (fun j => chI (bt s j)) true (fun k i hi => image_step k s i hi hs) (fun k => ?_) s.size 0 k (by omega) (by omega)).trans (by simp)
      show dns_Image.l0 (k + 1) s (s.size : Int) (s.size : Int) = _
      rw [dns_Image.l0, if_neg (by omega)]
  rw [dns_Image.f, imgB]
  by_cases h0 : s.toList = ([] : List UInt8)
  · rw [if_pos h0, hj]
    have : s.size = 0 := by
      rw [ByteArray.toList_eq] at h0
      have := congrArg List.length h0
      rw [Array.length_toList] at this
      exact this
    simp [this]
  have h1 : 1 ≤ s.size := Nat.one_le_iff_ne_zero.2 fun h => h0 (by rw [ByteArray.toList_eq]; exact List.eq_nil_of_length_eq_zero (by rw [Array.length_toList]; exact h))
  rw [if_neg h0]
  by_cases h255 : (s.size : Int) > 255
  · rw [if_pos h255, hj]
    have : ¬ s.size ≤ 255 := by omega
    simp [this]
  have h255' : s.size ≤ 255 := by omega
  rw [if_neg h255, if_pos (by omega), small_is, digit_is]
  simp only [Option.bind_some, hj, chH]
  cases (decide (97 ≤ bt s 0) && decide (bt s 0 ≤ 122)) <;> cases (decide (48 ≤ bt s 0) && decide (bt s 0 ≤ 57)) <;> simp [h1, h255']
end Go.Proofs.YtpmbdcljphpcnaaDoor.Pure
