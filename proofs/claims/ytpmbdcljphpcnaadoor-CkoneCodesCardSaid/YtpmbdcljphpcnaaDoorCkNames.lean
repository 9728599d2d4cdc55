/- File names of ckone: the program's test and the document's are one. Plain lemmas. No conditions beside those stated. -/
import Derived.Test.YtpmbdcljphpcnaaDoorGCkx3
import Derived.Test.YtpmbdcljphpcnaaDoorGCkx5
import Derived.Test.YtpmbdcljphpcnaaDoorGCkx10
import Derived.Test.YtpmbdcljphpcnaaDoorGCkx11
import Derived.Test.YtpmbdcljphpcnaaDoorGCkName
import Derived.Laws.Strings
namespace Go.Proofs.YtpmbdcljphpcnaaDoor.Pure
open Go.RowKit Go.Proofs.YtpmbdcljphpcnaaDoor.GCk Go.Proofs.YtpmbdcljphpcnaaDoorW.PrintWords Go.Proofs.YtpmbdcljphpcnaaDoorW.PrintLast Go.Proofs.YtpmbdcljphpcnaaDoorW.PrintMore

/-- A loop over places that goes on while a test holds. -/
theorem all_loop (n : Nat) (f : Nat → Int → Option Bool) (ok : Nat → Bool) (e : Bool) (hstep : ∀ k (i : Nat), i < n → f (k + 1) (i : Int) = if ok i = true then f k ((i + 1 : Nat) : Int) else some false) (hend : ∀ k, f (k + 1) (n : Int) = some e) :
    ∀ (m i k : Nat), i + m = n → m < k → f k (i : Int) = some ((List.range' i m).all ok && e)
  | 0, i, k, h, hk => by
    obtain ⟨k, rfl⟩ : ∃ k', k = k' + 1 := ⟨k - 1, by omega⟩
    obtain rfl : i = n := h
    rw [hend]
    simp
  | m + 1, i, k, h, hk => by
    obtain ⟨k, rfl⟩ : ∃ k', k = k' + 1 := ⟨k - 1, by omega⟩
    rw [hstep k i (by omega), all_loop n f ok e hstep hend m (i + 1) k (by omega) (by omega), List.range'_succ, List.all_cons]
    cases ok i <;> simp

/-- The signs of a file's name. -/
def chF (b : Int) : Bool := (decide (97 ≤ b) && decide (b ≤ 122)) || (decide (48 ≤ b) && decide (b ≤ 57)) || decide (b = 46) || decide (b = 95) || decide (b = 45) || decide (b = 47)
theorem idx4 (b : Int) (h : 0 ≤ b ∧ b ≤ 255) : Lib.indexByte [46, 95, 45, 47] b.toNat.toUInt8 < 0 ↔ ¬ (b = 46 ∨ b = 95 ∨ b = 45 ∨ b = 47) := by
  have hall : (List.range 256).all (fun n => decide (Lib.indexByte [46, 95, 45, 47] n.toUInt8 < 0) == decide (¬ (n = 46 ∨ n = 95 ∨ n = 45 ∨ n = 47))) = true := by decide +kernel
  obtain ⟨n, rfl⟩ := Int.eq_ofNat_of_zero_le h.1
  have := List.all_eq_true.1 hall n (List.mem_range.2 (by omega))
  rw [beq_iff_eq, decide_eq_decide] at this
  rw [Int.toNat_natCast, this]
  omega
theorem file_step (k : Nat) (s : ByteArray) (i : Nat) (hi : i < s.size) (hs : s.size ≤ 140737488351232) : ckone_File.l0 (k + 1) s (s.size : Int) (i : Int) = if chF (bt s i) = true then ckone_File.l0 k s (s.size : Int) ((i + 1 : Nat) : Int) else some false := by
  rw [ckone_File.l0, if_pos (by omega), if_pos (by omega), if_pos (by omega), i64_id (by omega) (by omega)]
  have hb := bt_range s i
  have hx := idx4 (bt s i) hb
  generalize bt s i = b at hb hx ⊢
  simp only [strings_IndexByte.f, Option.bind_some]
  generalize Lib.indexByte [46, 95, 45, 47] b.toNat.toUInt8 = t at hx ⊢
  have hn : ((i : Int) + 1) = ((i + 1 : Nat) : Int) := rfl
  rw [hn]
  generalize ckone_File.l0 k s (s.size : Int) ((i + 1 : Nat) : Int) = X
  have hc : chF b = true ↔ ((97 ≤ b ∧ b ≤ 122) ∨ (48 ≤ b ∧ b ≤ 57) ∨ b = 46 ∨ b = 95 ∨ b = 45 ∨ b = 47) := by simp [chF, or_assoc]
  clear hn hs hi
  by_cases h : chF b = true
  · rw [if_pos h]
    have h' := hc.1 h
    repeat' split
    all_goals first | rfl | (exfalso; omega)
  · rw [if_neg h]
    have h' : ¬ ((97 ≤ b ∧ b ≤ 122) ∨ (48 ≤ b ∧ b ≤ 57) ∨ b = 46 ∨ b = 95 ∨ b = 45 ∨ b = 47) := fun q => h (hc.2 q)
    repeat' split
    all_goals first | rfl | (exfalso; omega)
theorem ref_file_step (k : Nat) (s : ByteArray) (i : Nat) (hi : i < s.size) (hs : s.size ≤ 140737488351232) : bosunref04_Name.l0 (k + 1) s (i : Int) = if chF (bt s i) = true then bosunref04_Name.l0 k s ((i + 1 : Nat) : Int) else some false := by
  rw [bosunref04_Name.l0, if_pos (by omega), if_pos (by omega), i64_id (by omega) (by omega)]
  have hn : ((i : Int) + 1) = ((i + 1 : Nat) : Int) := rfl
  rw [hn]
  generalize bt s i = b
  generalize bosunref04_Name.l0 k s ((i + 1 : Nat) : Int) = X
  have hc : chF b = true ↔ ((97 ≤ b ∧ b ≤ 122) ∨ (48 ≤ b ∧ b ≤ 57) ∨ b = 46 ∨ b = 95 ∨ b = 45 ∨ b = 47) := by simp [chF, or_assoc]
  clear hn hs hi
  by_cases h : chF b = true
  · rw [if_pos h]
    have h' := hc.1 h
    repeat' split
    all_goals first | rfl | (exfalso; omega)
  · rw [if_neg h]
    have h' : ¬ ((97 ≤ b ∧ b ≤ 122) ∨ (48 ≤ b ∧ b ≤ 57) ∨ b = 46 ∨ b = 95 ∨ b = 45 ∨ b = 47) := fun q => h (hc.2 q)
    repeat' split
    all_goals first | rfl | (exfalso; omega)
/-- Is it a file's name? -/
def fileB (s : ByteArray) : Bool := (List.range' 0 s.size).all (fun j => chF (bt s j)) && (decide (1 ≤ s.size) && decide (s.size ≤ 64))
theorem file_is (k : Nat) (s : ByteArray) (hs : s.size ≤ 140737488351232) (hk : s.size < k) : ckone_File.f k s = some (fileB s) := by
  refine all_loop s.size (fun k i => ckone_File.l0 k s (s.size : Int) i) (fun j => chF (bt s j)) (decide (1 ≤ s.size) && decide (s.size ≤ 64)) (fun k i hi => file_step k s i hi hs) (fun k => ?_) s.size 0 k (by omega) hk
  show ckone_File.l0 (k + 1) s (s.size : Int) (s.size : Int) = _
  rw [ckone_File.l0, if_neg (by omega)]
  by_cases h0 : s.toList = ([] : List UInt8)
  · rw [if_pos h0]
    have : s.size = 0 := by
      rw [ByteArray.toList_eq] at h0
      have := congrArg List.length h0
      rw [Array.length_toList] at this
      exact this
    simp [this]
  · rw [if_neg h0]
    have : 1 ≤ s.size := Nat.one_le_iff_ne_zero.2 fun h => h0 (by rw [ByteArray.toList_eq]; exact List.eq_nil_of_length_eq_zero (by rw [Array.length_toList]; exact h))
    simp [this]
    omega
theorem ref_file_is (k : Nat) (s : ByteArray) (hs : s.size ≤ 140737488351232) (hk : s.size + 1 < k) : bosunref04_Name.f k s = some (fileB s) := by
  have hj : ∀ x : Bool, bosunref04_Name.j0 k s x = some ((List.range' 0 s.size).all (fun j => chF (bt s j)) && !x) := by
    intro x
    obtain ⟨k, rfl⟩ : ∃ k', k = k' + 1 := ⟨k - 1, by omega⟩
    cases x with
    | true => rw [bosunref04_Name.j0, if_pos rfl]; simp
    | false =>
      rw [bosunref04_Name.j0, if_neg (by decide)]
      refine (all_loop s.size (fun k i => bosunref04_Name.l0 k s i) (fun j => chF (bt s j)) true (fun k i hi => ref_file_step k s i hi hs) (fun k => ?_) s.size 0 k (by omega) (by omega)).trans (by simp)
      show bosunref04_Name.l0 (k + 1) s (s.size : Int) = _
      rw [bosunref04_Name.l0, if_neg (by omega)]
  rw [bosunref04_Name.f, fileB]
  by_cases h1 : (s.size : Int) < 1
  · rw [if_pos h1, hj]
    have : s.size = 0 := by omega
    simp [this]
  · rw [if_neg h1, hj]
    have h2 : 1 ≤ s.size := by omega
    by_cases h64 : s.size ≤ 64
    · have : decide ((s.size : Int) > 64) = false := decide_eq_false (by omega)
      simp [this, h2, h64]
    · have : decide ((s.size : Int) > 64) = true := decide_eq_true (by omega)
      simp [this, h64]

/-! labels -/
def chL (b : Int) : Bool := (decide (97 ≤ b) && decide (b ≤ 122)) || (decide (48 ≤ b) && decide (b ≤ 57)) || decide (b = 45)
theorem label_step (k : Nat) (s : ByteArray) (i : Nat) (hi : i < s.size) (hs : s.size ≤ 140737488351232) : dns_Label.l0 (k + 1) s (s.size : Int) (i : Int) = if chL (bt s i) = true then dns_Label.l0 k s (s.size : Int) ((i + 1 : Nat) : Int) else some false := by
  rw [dns_Label.l0, if_pos (by omega), if_pos (by omega), if_pos (by omega), i64_id (by omega) (by omega)]
  have hn : ((i : Int) + 1) = ((i + 1 : Nat) : Int) := rfl
  rw [hn]
  generalize bt s i = b
  generalize dns_Label.l0 k s (s.size : Int) ((i + 1 : Nat) : Int) = X
  have h1 : dns_small.f b = some (decide (97 ≤ b) && decide (b ≤ 122)) := by
    unfold dns_small.f
    by_cases h : 97 ≤ b <;> simp [h]
  have h2 : dns_digit.f b = some (decide (48 ≤ b) && decide (b ≤ 57)) := by
    unfold dns_digit.f
    by_cases h : 48 ≤ b <;> simp [h]
  rw [h1, h2, chL]
  simp only [Option.bind_some]
  cases (decide (97 ≤ b) && decide (b ≤ 122)) <;> cases (decide (48 ≤ b) && decide (b ≤ 57)) <;> by_cases h : b = 45 <;> simp [h]
theorem in_label (k : Nat) (b : Int) (h : 0 ≤ b ∧ b ≤ 255) (hk : 60 ≤ k) : bosunref13_in.f k b (⟨#[97, 98, 99, 100, 101, 102, 103, 104, 105, 106, 107, 108, 109, 110, 111, 112, 113, 114, 115, 116, 117, 118, 119, 120, 121, 122, 48, 49, 50, 51, 52, 53, 54, 55, 56, 57, 45]⟩ : ByteArray) = some (chL b) := by
  have hall : (List.range 256).all (fun n => bosunref13_in.f 60 (n : Int) (⟨#[97, 98, 99, 100, 101, 102, 103, 104, 105, 106, 107, 108, 109, 110, 111, 112, 113, 114, 115, 116, 117, 118, 119, 120, 121, 122, 48, 49, 50, 51, 52, 53, 54, 55, 56, 57, 45]⟩ : ByteArray) == some (chL n)) = true := by decide +kernel
  obtain ⟨n, rfl⟩ := Int.eq_ofNat_of_zero_le h.1
  have h60 := beq_iff_eq.1 (List.all_eq_true.1 hall n (List.mem_range.2 (by omega)))
  clear hall
  obtain ⟨d, rfl⟩ : ∃ d, k = 60 + d := ⟨k - 60, by omega⟩
  clear hk
  induction d with
  | zero => exact h60
  | succ d ih => exact bosunref13_in.mono _ _ _ _ ih
theorem all_is (k : Nat) (s t : ByteArray) (ok : Int → Bool) (hin : ∀ k b, 60 ≤ k → (0 ≤ b ∧ b ≤ 255) → bosunref13_in.f k b t = some (ok b)) (hs : s.size ≤ 140737488351232) (hk : s.size + 100 < k) : bosunref13_all.f k s t = some ((List.range' 0 s.size).all fun j => ok (bt s j)) := by
  obtain ⟨k, rfl⟩ : ∃ k', k = k' + 60 := ⟨k - 60, by omega⟩
  refine (all_loop s.size (fun k i => bosunref13_all.l0 (k + 60) s t i) (fun j => ok (bt s j)) true (fun k i hi => ?_) (fun k => ?_) s.size 0 k (by omega) (by omega)).trans (by simp)
  · show bosunref13_all.l0 (k + 60 + 1) s t (i : Int) = _
    rw [bosunref13_all.l0, if_pos (by omega), if_pos (by omega), hin _ _ (by omega) (bt_range s i), i64_id (by omega) (by omega)]
    rfl
  · show bosunref13_all.l0 (k + 60 + 1) s t (s.size : Int) = _
    rw [bosunref13_all.l0, if_neg (by omega)]
/-- Is it a label? -/
def labB (s : ByteArray) : Bool := decide (1 ≤ s.size) && (decide (s.size ≤ 63) && ((List.range' 0 s.size).all (fun j => chL (bt s j)) && (decide (bt s 0 ≠ 45) && decide (bt s ((s.size : Int) - 1) ≠ 45))))
theorem label_is (k : Nat) (s : ByteArray) (hs : s.size ≤ 140737488351232) (hk : s.size + 1 < k) : dns_Label.f k s = some (labB s) := by
  have hj : ∀ x : Bool, dns_Label.j0 k s x = some ((List.range' 0 s.size).all (fun j => chL (bt s j)) && !x) := by
    intro x
    obtain ⟨k, rfl⟩ : ∃ k', k = k' + 1 := ⟨k - 1, by omega⟩
    cases x with
    | true => rw [dns_Label.j0, if_pos rfl]; simp
    | false =>
      rw [dns_Label.j0, if_neg (by decide)]
      refine (all_loop s.size (fun k i => dns_Label.l0 k s (s.size : Int) i) (fun j => chL (bt s j)) true (fun k i hi => label_step k s i hi hs) (fun k => ?_) s.size 0 k (by omega) (by omega)).trans (by simp)
      show dns_Label.l0 (k + 1) s (s.size : Int) (s.size : Int) = _
      rw [dns_Label.l0, if_neg (by omega)]
  rw [dns_Label.f, labB]
  by_cases h0 : s.toList = ([] : List UInt8)
  · rw [if_pos h0, hj]
    have : s.size = 0 := by
      rw [ByteArray.toList_eq] at h0
      have := congrArg List.length h0
      rw [Array.length_toList] at this
      exact this
    simp [this]
  have h1 : 1 ≤ s.size := Nat.one_le_iff_ne_zero.2 fun h => h0 (by rw [ByteArray.toList_eq]; exact List.eq_nil_of_length_eq_zero (by rw [Array.length_toList]; exact h))
  rw [if_neg h0]
  by_cases h63 : (s.size : Int) > 63
  · rw [if_pos h63, hj]
    have : ¬ s.size ≤ 63 := by omega
    simp [this]
  have h63' : s.size ≤ 63 := by omega
  rw [if_neg h63, if_pos (by omega)]
  by_cases hf : bt s 0 = 45
  · rw [if_pos hf, hj]
    simp [hf]
  rw [if_neg hf, i64_id (by omega) (by omega), if_pos (by omega), if_pos (by omega), hj]
  by_cases hl : bt s ((s.size : Int) - 1) = 45
  · simp [hl]
  · have : (bt s ((s.size : Int) - 1) == 45) = false := beq_eq_false_iff_ne.2 hl
    rw [this]
    simp [h1, h63', hf, hl]
theorem ref_label_is (k : Nat) (s : ByteArray) (hs : s.size ≤ 140737488351232) (hk : s.size + 100 < k) : bosunref13_Label.f k s = some (labB s) := by
  rw [bosunref13_Label.f, labB]
  by_cases h1 : (s.size : Int) ≥ 1
  · rw [if_pos h1]
    by_cases h63 : (s.size : Int) ≤ 63
    · have e1 : 1 ≤ s.size := by omega
      have e2 : s.size ≤ 63 := by omega
      rw [if_pos h63]
      simp only [bosunref13_Small.f, bosunref13_Digits.f, Option.bind_some]
      rw [if_pos (by decide), if_pos (by decide)]
      have ha := all_is k s _ chL (fun k b hk hb => in_label k b hb hk) hs hk
      refine (congrArg (fun z => Option.bind z _) ha).trans ?_
      simp only [Option.bind_some]
      cases hA : (List.range' 0 s.size).all (fun j => chL (bt s j)) with
      | false => simp
      | true =>
        rw [if_pos rfl, if_pos (by omega)]
        by_cases hf : bt s 0 = 45
        · rw [if_pos hf]
          simp [hf]
        · rw [if_neg hf, i64_id (by omega) (by omega), if_pos (by omega), if_pos (by omega)]
          by_cases hl : bt s ((s.size : Int) - 1) = 45
          · simp [hl]
          · simp [e1, e2, hf, hl]
    · rw [if_neg h63]
      have : ¬ s.size ≤ 63 := by omega
      simp [this]
  · rw [if_neg h1]
    have : ¬ 1 ≤ s.size := by omega
    simp [this]

/-! images -/
def chI (b : Int) : Bool := (decide (97 ≤ b) && decide (b ≤ 122)) || (decide (65 ≤ b) && decide (b ≤ 90)) || (decide (48 ≤ b) && decide (b ≤ 57)) || decide (b = 46) || decide (b = 95) || decide (b = 45) || decide (b = 47) || decide (b = 58) || decide (b = 64)
def chH (b : Int) : Bool := (decide (97 ≤ b) && decide (b ≤ 122)) || (decide (48 ≤ b) && decide (b ≤ 57))
theorem idx6 (b : Int) (h : 0 ≤ b ∧ b ≤ 255) : Lib.indexByte [46, 95, 45, 47, 58, 64] b.toNat.toUInt8 < 0 ↔ ¬ (b = 46 ∨ b = 95 ∨ b = 45 ∨ b = 47 ∨ b = 58 ∨ b = 64) := by
  have hall : (List.range 256).all (fun n => decide (Lib.indexByte [46, 95, 45, 47, 58, 64] n.toUInt8 < 0) == decide (¬ (n = 46 ∨ n = 95 ∨ n = 45 ∨ n = 47 ∨ n = 58 ∨ n = 64))) = true := by decide +kernel
  obtain ⟨n, rfl⟩ := Int.eq_ofNat_of_zero_le h.1
  have := List.all_eq_true.1 hall n (List.mem_range.2 (by omega))
  rw [beq_iff_eq, decide_eq_decide] at this
  rw [Int.toNat_natCast, this]
  omega
theorem small_is (b : Int) : dns_small.f b = some (decide (97 ≤ b) && decide (b ≤ 122)) := by
  unfold dns_small.f
  by_cases h : 97 ≤ b <;> simp [h]
theorem great_is (b : Int) : dns_great.f b = some (decide (65 ≤ b) && decide (b ≤ 90)) := by
  unfold dns_great.f
  by_cases h : 65 ≤ b <;> simp [h]
theorem digit_is (b : Int) : dns_digit.f b = some (decide (48 ≤ b) && decide (b ≤ 57)) := by
  unfold dns_digit.f
  by_cases h : 48 ≤ b <;> simp [h]
theorem image_step (k : Nat) (s : ByteArray) (i : Nat) (hi : i < s.size) (hs : s.size ≤ 140737488351232) : dns_Image.l0 (k + 1) s (s.size : Int) (i : Int) = if chI (bt s i) = true then dns_Image.l0 k s (s.size : Int) ((i + 1 : Nat) : Int) else some false := by
  rw [dns_Image.l0, if_pos (by omega), if_pos (by omega), if_pos (by omega), i64_id (by omega) (by omega)]
  have hb := bt_range s i
  have hx := idx6 (bt s i) hb
  generalize bt s i = b at hb hx ⊢
  simp only [strings_IndexByte.f, small_is, great_is, digit_is, Option.bind_some]
  generalize Lib.indexByte [46, 95, 45, 47, 58, 64] b.toNat.toUInt8 = t at hx ⊢
  have hn : ((i : Int) + 1) = ((i + 1 : Nat) : Int) := rfl
  rw [hn]
  generalize dns_Image.l0 k s (s.size : Int) ((i + 1 : Nat) : Int) = X
  have hc : chI b = true ↔ ((97 ≤ b ∧ b ≤ 122) ∨ (65 ≤ b ∧ b ≤ 90) ∨ (48 ≤ b ∧ b ≤ 57) ∨ b = 46 ∨ b = 95 ∨ b = 45 ∨ b = 47 ∨ b = 58 ∨ b = 64) := by simp [chI, or_assoc]
  clear hn hs hi
  simp only [Bool.and_eq_true, decide_eq_true_eq]
  by_cases h : chI b = true
  · rw [if_pos h]
    have h' := hc.1 h
    repeat' split
    all_goals first | rfl | (exfalso; omega)
  · rw [if_neg h]
    have h' : ¬ ((97 ≤ b ∧ b ≤ 122) ∨ (65 ≤ b ∧ b ≤ 90) ∨ (48 ≤ b ∧ b ≤ 57) ∨ b = 46 ∨ b = 95 ∨ b = 45 ∨ b = 47 ∨ b = 58 ∨ b = 64) := fun q => h (hc.2 q)
    repeat' split
    all_goals first | rfl | (exfalso; omega)
def imgT : ByteArray := ⟨#[97, 98, 99, 100, 101, 102, 103, 104, 105, 106, 107, 108, 109, 110, 111, 112, 113, 114, 115, 116, 117, 118, 119, 120, 121, 122, 65, 66, 67, 68, 69, 70, 71, 72, 73, 74, 75, 76, 77, 78, 79, 80, 81, 82, 83, 84, 85, 86, 87, 88, 89, 90, 48, 49, 50, 51, 52, 53, 54, 55, 56, 57, 46, 95, 45, 47, 58, 64]⟩
def hdT : ByteArray := ⟨#[97, 98, 99, 100, 101, 102, 103, 104, 105, 106, 107, 108, 109, 110, 111, 112, 113, 114, 115, 116, 117, 118, 119, 120, 121, 122, 48, 49, 50, 51, 52, 53, 54, 55, 56, 57]⟩
theorem in_at (k0 : Nat) (t : ByteArray) (ok : Int → Bool) (hall : (List.range 256).all (fun n => bosunref13_in.f k0 (n : Int) t == some (ok n)) = true) (k : Nat) (b : Int) (h : 0 ≤ b ∧ b ≤ 255) (hk : k0 ≤ k) : bosunref13_in.f k b t = some (ok b) := by
  obtain ⟨n, rfl⟩ := Int.eq_ofNat_of_zero_le h.1
  have h60 := beq_iff_eq.1 (List.all_eq_true.1 hall n (List.mem_range.2 (by omega)))
  clear hall
  obtain ⟨d, rfl⟩ : ∃ d, k = k0 + d := ⟨k - k0, by omega⟩
  clear hk
  induction d with
  | zero => exact h60
  | succ d ih => exact bosunref13_in.mono _ _ _ _ ih
theorem in_img (k : Nat) (b : Int) (h : 0 ≤ b ∧ b ≤ 255) (hk : 80 ≤ k) : bosunref13_in.f k b imgT = some (chI b) := in_at 80 imgT chI (by decide +kernel) k b h hk
theorem in_hd (k : Nat) (b : Int) (h : 0 ≤ b ∧ b ≤ 255) (hk : 80 ≤ k) : bosunref13_in.f k b hdT = some (chH b) := in_at 80 hdT chH (by decide +kernel) k b h hk
theorem all_is80 (k : Nat) (s t : ByteArray) (ok : Int → Bool) (hin : ∀ k b, 80 ≤ k → (0 ≤ b ∧ b ≤ 255) → bosunref13_in.f k b t = some (ok b)) (hs : s.size ≤ 140737488351232) (hk : s.size + 100 < k) : bosunref13_all.f k s t = some ((List.range' 0 s.size).all fun j => ok (bt s j)) := by
  obtain ⟨k, rfl⟩ : ∃ k', k = k' + 80 := ⟨k - 80, by omega⟩
  refine (all_loop s.size (fun k i => bosunref13_all.l0 (k + 80) s t i) (fun j => ok (bt s j)) true (fun k i hi => ?_) (fun k => ?_) s.size 0 k (by omega) (by omega)).trans (by simp)
  · show bosunref13_all.l0 (k + 80 + 1) s t (i : Int) = _
    rw [bosunref13_all.l0, if_pos (by omega), if_pos (by omega), hin _ _ (by omega) (bt_range s i), i64_id (by omega) (by omega)]
    rfl
  · show bosunref13_all.l0 (k + 80 + 1) s t (s.size : Int) = _
    rw [bosunref13_all.l0, if_neg (by omega)]
/-- Is it an image's name? -/
def imgB (s : ByteArray) : Bool := decide (1 ≤ s.size) && (decide (s.size ≤ 255) && ((List.range' 0 s.size).all (fun j => chI (bt s j)) && chH (bt s 0)))
theorem image_is (k : Nat) (s : ByteArray) (hs : s.size ≤ 140737488351232) (hk : s.size + 1 < k) : dns_Image.f k s = some (imgB s) := by
  have hj : ∀ x : Bool, dns_Image.j0 k s x = some ((List.range' 0 s.size).all (fun j => chI (bt s j)) && !x) := by
    intro x
    obtain ⟨k, rfl⟩ : ∃ k', k = k' + 1 := ⟨k - 1, by omega⟩
    cases x with
    | true => rw [dns_Image.j0, if_pos rfl]; simp
    | false =>
      rw [dns_Image.j0, if_neg (by decide)]
      refine (all_loop s.size (fun k i => dns_Image.l0 k s (s.size : Int) i) (fun j => chI (bt s j)) true (fun k i hi => image_step k s i hi hs) (fun k => ?_) s.size 0 k (by omega) (by omega)).trans (by simp)
      show dns_Image.l0 (k + 1) s (s.size : Int) (s.size : Int) = _
      rw [dns_Image.l0, if_neg (by omega)]
  rw [dns_Image.f, imgB]
  by_cases h0 : s.toList = ([] : List UInt8)
  · rw [if_pos h0, hj]
    have : s.size = 0 := by
      rw [ByteArray.toList_eq] at h0
      have := congrArg List.length h0
      rw [Array.length_toList] at this
      exact this
    simp [this]
  have h1 : 1 ≤ s.size := Nat.one_le_iff_ne_zero.2 fun h => h0 (by rw [ByteArray.toList_eq]; exact List.eq_nil_of_length_eq_zero (by rw [Array.length_toList]; exact h))
  rw [if_neg h0]
  by_cases h255 : (s.size : Int) > 255
  · rw [if_pos h255, hj]
    have : ¬ s.size ≤ 255 := by omega
    simp [this]
  have h255' : s.size ≤ 255 := by omega
  rw [if_neg h255, if_pos (by omega), small_is, digit_is]
  simp only [Option.bind_some, hj, chH]
  cases (decide (97 ≤ bt s 0) && decide (bt s 0 ≤ 122)) <;> cases (decide (48 ≤ bt s 0) && decide (bt s 0 ≤ 57)) <;> simp [h1, h255']
theorem ref_image_is (k : Nat) (s : ByteArray) (hs : s.size ≤ 140737488351232) (hk : s.size + 100 < k) : bosunref13_Image.f k s = some (imgB s) := by
  rw [bosunref13_Image.f, imgB]
  by_cases h1 : (s.size : Int) ≥ 1
  · rw [if_pos h1]
    by_cases h255 : (s.size : Int) ≤ 255
    · have e1 : 1 ≤ s.size := by omega
      have e2 : s.size ≤ 255 := by omega
      rw [if_pos h255]
      simp only [bosunref13_Small.f, bosunref13_Great.f, bosunref13_Digits.f, Option.bind_some]
      rw [if_pos (by decide), if_pos (by decide), if_pos (by decide)]
      have ha := all_is80 k s imgT chI (fun k b hk hb => in_img k b hb hk) hs hk
      refine (congrArg (fun z => Option.bind z _) ha).trans ?_
      simp only [Option.bind_some]
      cases hA : (List.range' 0 s.size).all (fun j => chI (bt s j)) with
      | false => simp
      | true =>
        rw [if_pos rfl, if_pos (by omega), if_pos (by decide)]
        have hh := in_hd k (bt s 0) (bt_range s 0) (by omega)
        refine (congrArg (fun z => Option.bind z _) hh).trans ?_
        simp [e1, e2]
    · rw [if_neg h255]
      have : ¬ s.size ≤ 255 := by omega
      simp [this]
  · rw [if_neg h1]
    have : ¬ 1 ≤ s.size := by omega
    simp [this]
end Go.Proofs.YtpmbdcljphpcnaaDoor.Pure
