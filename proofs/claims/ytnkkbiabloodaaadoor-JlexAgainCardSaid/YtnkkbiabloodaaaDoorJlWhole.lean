/- A whole number's text, by the program and by the document: one plain function. Plain lemmas. No conditions beside those stated. -/
import Derived.Test.YtnkkbiabloodaaaDoorJlDigits
import Derived.Test.YtnkkbiabloodaaaDoorGUtx3
import Derived.Test.YtnkkbiabloodaaaDoorGUtx10
namespace Go.Proofs.YtnkkbiabloodaaaDoor.Pure
open Go.RowKit Go.Proofs.YtnkkbiabloodaaaDoor.GUt Go.Proofs.YtnkkbiabloodaaaDoorW.PrintWords Go.Proofs.YtnkkbiabloodaaaDoorW.PrintLast Go.Proofs.YtnkkbiabloodaaaDoorW.PrintMore

theorem wi {i : Nat} (h : i ≤ 1000000000) : wrap64 ((i : Int) + 1) = ((i + 1 : Nat) : Int) := by rw [i64_id (by omega) (by omega)]; omega
theorem drop_at (s : ByteArray) (j : Nat) (h : j < s.size) : ∃ b : UInt8, s.data.toList.drop j = b :: s.data.toList.drop (j + 1) ∧ (b.toNat : Int) = bt s (j : Int) := by
  have hl : j < s.data.toList.length := by rw [Array.length_toList]; exact h
  refine ⟨s.data.toList[j], List.drop_eq_getElem_cons hl, ?_⟩
  unfold bt
  rw [dif_pos (show ((j : Nat) : Int).toNat < s.size by omega)]
  simp only [Int.toNat_natCast, Array.getElem_toList]
  rfl
theorem len_list (s : ByteArray) : s.data.toList.length = s.size := Array.length_toList
/-- Digits alone? -/
def digN (s : ByteArray) : Nat → Nat → Bool
  | 0, _ => true
  | m + 1, i => if 48 ≤ bt s (i : Int) ∧ bt s (i : Int) ≤ 57 then digN s m (i + 1) else false
theorem digN_all (s : ByteArray) : ∀ m i, i + m = s.size → (digN s m i = true ↔ allD (s.data.toList.drop i))
  | 0, i, h => by
    rw [digN, List.drop_eq_nil_of_le (by rw [len_list]; omega)]
    exact ⟨fun _ b hb => absurd hb (by simp), fun _ => rfl⟩
  | m + 1, i, h => by
    obtain ⟨b, hb, hbt⟩ := drop_at s i (by omega)
    have ih := digN_all s m (i + 1) (by omega)
    rw [digN, hb, ← hbt]
    by_cases c : 48 ≤ (b.toNat : Int) ∧ (b.toNat : Int) ≤ 57
    · rw [if_pos c, ih]
      constructor
      · intro q x hx
        rcases List.mem_cons.1 hx with rfl | hx
        · omega
        · exact q x hx
      · exact fun q x hx => q x (List.mem_cons_of_mem _ hx)
    · rw [if_neg c]
      constructor
      · intro q
        cases q
      · intro q
        have := q b List.mem_cons_self
        omega
theorem dig_is (b : Int) : jlex_digit.f b = some (decide (48 ≤ b ∧ b ≤ 57)) := by
  unfold jlex_digit.f
  by_cases h : b ≥ 48
  · rw [if_pos h]
    congr 1
    exact decide_eq_decide.2 ⟨fun q => ⟨h, q⟩, fun q => q.2⟩
  · rw [if_neg h, decide_eq_false (by omega)]
theorem dig_is7 (b : Int) : bosunref07_digit.f b = some (decide (48 ≤ b ∧ b ≤ 57)) := by
  unfold bosunref07_digit.f
  by_cases h : b ≥ 48
  · rw [if_pos h]
    congr 1
    exact decide_eq_decide.2 ⟨fun q => ⟨h, q⟩, fun q => q.2⟩
  · rw [if_neg h, decide_eq_false (by omega)]
theorem valL_ge (l : List UInt8) (a : Nat) : a ≤ valL l a := by
  rw [valL_add]
  have : a * 1 ≤ a * 10 ^ l.length := Nat.mul_le_mul_left _ (Nat.pow_pos (by decide))
  omega
/-- The answer at digits. -/
def outN (M N : Nat) (less : Bool) : Int × Int := if M < N then (0, 7) else if less = true then (-(N : Int), 0) else ((N : Int), 0)
theorem neg_wrap (N : Nat) (h : N ≤ 9223372036854775808) : wrap64 (IntKind.u64.wrap (-(N : Int))) = -(N : Int) := by
  have e : IntKind.u64.wrap (-(N : Int)) = (-(N : Int)) % 18446744073709551616 := by simp [IntKind.wrap, IntKind.bits, IntKind.signed]
  rw [e]
  unfold wrap64
  omega
theorem whole_loop (s : ByteArray) (hs : s.size ≤ 100000000) (less : Bool) (M : Nat) (hM : M ≤ 9223372036854775808) (h57 : 1000 ≤ M) (hp : less = false → M ≤ 9223372036854775807) : ∀ (m i a : Nat) (v : Int) (g : Bool), i + m = s.size → ((g = true ∧ M < a) ∨ (g = false ∧ v = (a : Int) ∧ a ≤ M)) →
    Ev (fun k => jlex_Whole.l0 k s less (M : Int) v g (s.size : Int) (i : Int)) (if digN s m i = true then outN M (valL (s.data.toList.drop i) a) less else (0, 12))
  | 0, i, a, v, g, h, hg => by
    rw [digN, if_pos rfl, List.drop_eq_nil_of_le (by rw [len_list]; omega), valL, outN]
    rcases hg with ⟨rfl, hg⟩ | ⟨rfl, hv, ha⟩
    · rw [if_pos hg]
      exact Ev.step (fun k => by rw [jlex_Whole.l0, if_neg (by omega), if_pos rfl]) (Ev.now _)
    · rw [if_neg (by omega)]
      cases less with
      | true =>
        rw [if_pos rfl]
        exact Ev.step (fun k => by rw [jlex_Whole.l0, if_neg (by omega), if_neg Bool.false_ne_true, if_pos rfl, hv, neg_wrap a (by omega)]) (Ev.now _)
      | false =>
        rw [if_neg Bool.false_ne_true]
        have := hp rfl
        exact Ev.step (fun k => by rw [jlex_Whole.l0, if_neg (by omega), if_neg Bool.false_ne_true, if_neg Bool.false_ne_true, hv, i64_id (by omega) (by omega)]) (Ev.now _)
  | m + 1, i, a, v, g, h, hg => by
    obtain ⟨b, hb, hbt⟩ := drop_at s i (by omega)
    have w1 := wi (i := i) (by omega)
    have p0 : (0 : Int) ≤ (i : Int) := by omega
    have p1 : (i : Int) < (s.size : Int) := by omega
    rw [digN, hb, valL]
    by_cases c : 48 ≤ bt s (i : Int) ∧ bt s (i : Int) ≤ 57
    · rw [if_pos c]
      have hd : (bt s (i : Int) - 48) % 256 = ((b.toNat - 48 : Nat) : Int) := by omega
      obtain ⟨d, hde⟩ : ∃ d, b.toNat - 48 = d := ⟨_, rfl⟩
      have hd9 : d ≤ 9 := by omega
      rw [hde] at hd ⊢
      have hmd : (M : Int) - (d : Int) = ((M - d : Nat) : Int) := by omega
      have hq : IntKind.u64.wrap (Int.tdiv (IntKind.u64.wrap ((M : Int) - (d : Int))) 10) = (((M - d) / 10 : Nat) : Int) := by
        rw [hmd, u64_id (x := ((M - d : Nat) : Int)) (by omega) (by omega), Int.tdiv_eq_ediv_of_nonneg (by omega), u64_id (by omega) (by omega)]
        omega
      have hbd : (M - d) / 10 * 10 ≤ M - d := Nat.div_mul_le_self _ _
      have hbd2 : M - d < (M - d) / 10 * 10 + 10 := by omega
      have first : ∀ k v g, jlex_Whole.l0 (k + 1) s less (M : Int) v g (s.size : Int) (i : Int) = if v > (((M - d) / 10 : Nat) : Int) then jlex_Whole.l0 k s less (M : Int) v true (s.size : Int) ((i + 1 : Nat) : Int) else if g = true then jlex_Whole.l0 k s less (M : Int) v g (s.size : Int) ((i + 1 : Nat) : Int) else jlex_Whole.l0 k s less (M : Int) (IntKind.u64.wrap (IntKind.u64.wrap (10 * v) + (d : Int))) g (s.size : Int) ((i + 1 : Nat) : Int) := fun k v g => by
        rw [jlex_Whole.l0, if_pos p1, if_pos p0, if_pos p1, dig_is, decide_eq_true c, Option.bind_some, if_pos rfl, hd, hq, w1]
      have ih := fun a v g hg => whole_loop s hs less M hM h57 hp m (i + 1) a v g (by omega) hg
      rcases hg with ⟨rfl, hg⟩ | ⟨rfl, hv, ha⟩
      · have r := ih (10 * a + d) v true (.inl ⟨rfl, by omega⟩)
        refine Ev.step (fun k => ?_) r
        rw [first]
        by_cases q : v > (((M - d) / 10 : Nat) : Int)
        · rw [if_pos q]
        · rw [if_neg q, if_pos rfl]
      · by_cases q : v > (((M - d) / 10 : Nat) : Int)
        · have r := ih (10 * a + d) v true (.inl ⟨rfl, by omega⟩)
          exact Ev.step (fun k => by rw [first, if_pos q]) r
        · have hv2 : IntKind.u64.wrap (IntKind.u64.wrap (10 * v) + (d : Int)) = ((10 * a + d : Nat) : Int) := by
            rw [hv, u64_id (x := 10 * (a : Int)) (by omega) (by omega), u64_id (by omega) (by omega)]
            omega
          have r := ih (10 * a + d) _ false (.inr ⟨rfl, hv2, by omega⟩)
          exact Ev.step (fun k => by rw [first, if_neg q, if_neg Bool.false_ne_true]) r
    · rw [if_neg c, if_neg Bool.false_ne_true]
      exact Ev.step (fun k => by rw [jlex_Whole.l0, if_pos p1, if_pos p0, if_pos p1, dig_is, decide_eq_false c, Option.bind_some, if_neg Bool.false_ne_true]) (Ev.now _)
/-- The answer behind the sign. -/
def wholeN (s : ByteArray) (less : Bool) (M : Nat) : Int × Int := if s.size = 0 ∨ (1 < s.size ∧ bt s 0 = 48) then (0, 12) else if digN s s.size 0 = true then outN M (valL s.data.toList 0) less else (0, 12)
def mostN (less : Bool) : Nat := if less = true then 9223372036854775808 else 9223372036854775807
theorem whole_j1 (s : ByteArray) (hs : s.size ≤ 100000000) (less : Bool) : Ev (fun k => jlex_Whole.j1 k s less) (wholeN s less (mostN less)) := by
  have j3 : Ev (fun k => jlex_Whole.j3 k s less ((mostN less : Nat) : Int)) (if digN s s.size 0 = true then outN (mostN less) (valL s.data.toList 0) less else (0, 12)) := by
    refine Ev.step (fun k => by rw [jlex_Whole.j3]) ?_
    have h := whole_loop s hs less (mostN less) (by cases less <;> decide) (by cases less <;> decide) (by intro q; rw [q]; decide) s.size 0 0 0 false (by omega) (.inr ⟨rfl, rfl, Nat.zero_le _⟩)
    rw [List.drop_zero] at h
    exact h
  have j2 : ∀ b : Bool, (b = true ↔ (s.size = 0 ∨ (1 < s.size ∧ bt s 0 = 48))) → Ev (fun k => jlex_Whole.j2 k s less b) (wholeN s less (mostN less)) := by
    intro b hb
    unfold wholeN
    by_cases q : b = true
    · rw [if_pos (hb.1 q)]
      exact Ev.step (fun k => by rw [jlex_Whole.j2, if_pos q]) (Ev.now _)
    · rw [if_neg (fun x => q (hb.2 x))]
      cases less with
      | true => exact Ev.step (fun k => by rw [jlex_Whole.j2, if_neg q, if_pos rfl]; rfl) j3
      | false => exact Ev.step (fun k => by rw [jlex_Whole.j2, if_neg q, if_neg Bool.false_ne_true]; rfl) j3
  by_cases h0 : s.size = 0
  · have e : s.toList = ([] : List UInt8) := by
      rw [ByteArray.toList_eq]
      exact List.eq_nil_of_length_eq_zero (by rw [len_list]; exact h0)
    exact Ev.step (fun k => by rw [jlex_Whole.j1, if_pos e]) (j2 true ⟨fun _ => .inl h0, fun _ => rfl⟩)
  · have e : ¬ s.toList = ([] : List UInt8) := by
      rw [ByteArray.toList_eq]
      intro e
      have := congrArg List.length e
      rw [len_list] at this
      exact h0 this
    by_cases h1 : (s.size : Int) > 1
    · exact Ev.step (fun k => by rw [jlex_Whole.j1, if_neg e, if_pos h1, if_pos (by omega)]) (j2 (bt s 0 == 48) ⟨fun q => .inr ⟨by omega, beq_iff_eq.1 q⟩, fun q => beq_iff_eq.2 (by
        rcases q with q | q
        · exact absurd q h0
        · exact q.2)⟩)
    · exact Ev.step (fun k => by rw [jlex_Whole.j1, if_neg e, if_neg h1]) (j2 false ⟨fun q => (by cases q), fun q => by omega⟩)
/-- The answer. -/
def wholeT (s : ByteArray) : Int × Int := if 0 < s.size ∧ bt s 0 = 45 then wholeN (s.extract 1 s.size) true (mostN true) else wholeN s false (mostN false)
theorem whole_ev (s : ByteArray) (hs : s.size ≤ 100000000) : Ev (fun k => jlex_Whole.f k s) (wholeT s) := by
  have hx : (s.extract 1 s.size).size ≤ 100000000 := by rw [ByteArray.size_extract]; omega
  have j0 : ∀ b : Bool, (b = true ↔ (0 < s.size ∧ bt s 0 = 45)) → Ev (fun k => jlex_Whole.j0 k s b) (wholeT s) := by
    intro b hb
    unfold wholeT
    cases b with
    | true =>
      have := hb.1 rfl
      rw [if_pos this]
      exact Ev.step (fun k => by rw [jlex_Whole.j0, if_pos rfl, if_pos (by omega)]) (whole_j1 _ hx true)
    | false =>
      rw [if_neg (fun q => Bool.false_ne_true (hb.2 q))]
      exact Ev.step (fun k => by rw [jlex_Whole.j0, if_neg Bool.false_ne_true]) (whole_j1 s hs false)
  by_cases h0 : s.size = 0
  · have e : s.toList = ([] : List UInt8) := by
      rw [ByteArray.toList_eq]
      exact List.eq_nil_of_length_eq_zero (by rw [len_list]; exact h0)
    exact Ev.congr (fun k => by rw [jlex_Whole.f, if_pos e]) (j0 false ⟨fun q => (by cases q), fun q => by omega⟩)
  · have e : ¬ s.toList = ([] : List UInt8) := by
      rw [ByteArray.toList_eq]
      intro e
      have := congrArg List.length e
      rw [len_list] at this
      exact h0 this
    exact Ev.congr (fun k => by rw [jlex_Whole.f, if_neg e, if_pos (by omega)]) (j0 (bt s 0 == 45) ⟨fun q => ⟨by omega, beq_iff_eq.1 q⟩, fun q => beq_iff_eq.2 q.2⟩)
/-! The document's. -/
theorem ref_l1 (s : ByteArray) (hs : s.size ≤ 100000000) (less : Bool) (sg : ByteArray) (hsg : sg.toList = ([45] : List UInt8) ↔ less = true) (hD : allD s.data.toList) : ∀ (m i a : Nat), i + m = s.size → valL (s.data.toList.drop i) a ≤ mostN less →
    Ev (fun k => bosunref07_Whole.l1 k s sg (if less = true then -(a : Int) else (a : Int)) (i : Int)) (if less = true then -((valL (s.data.toList.drop i) a : Nat) : Int) else ((valL (s.data.toList.drop i) a : Nat) : Int), 0)
  | 0, i, a, h, hN => by
    rw [List.drop_eq_nil_of_le (by rw [len_list]; omega), valL]
    exact Ev.step (fun k => by rw [bosunref07_Whole.l1, if_neg (by omega)]) (Ev.now _)
  | m + 1, i, a, h, hN => by
    obtain ⟨b, hb, hbt⟩ := drop_at s i (by omega)
    have w1 := wi (i := i) (by omega)
    have hbD : 48 ≤ b.toNat ∧ b.toNat ≤ 57 := hD b (List.mem_of_mem_drop (i := i) (by rw [hb]; exact List.mem_cons_self))
    rw [hb, valL] at hN ⊢
    have hd : (bt s (i : Int) - 48) % 256 = ((b.toNat - 48 : Nat) : Int) := by omega
    obtain ⟨d, hde⟩ : ∃ d, b.toNat - 48 = d := ⟨_, rfl⟩
    rw [hde] at hd hN ⊢
    have hge := valL_ge (s.data.toList.drop (i + 1)) (10 * a + d)
    have hle : 10 * a + d ≤ mostN less := Nat.le_trans hge hN
    have ih := ref_l1 s hs less sg hsg hD m (i + 1) (10 * a + d) (by omega) hN
    cases less with
    | true =>
      have hm : mostN true = 9223372036854775808 := rfl
      rw [hm] at hle
      rw [if_pos rfl] at ih ⊢
      rw [if_pos rfl]
      rw [if_pos rfl] at ih
      have e : wrap64 (wrap64 (-(a : Int) * 10) - (d : Int)) = -((10 * a + d : Nat) : Int) := by
        rw [i64_id (x := -(a : Int) * 10) (by omega) (by omega), i64_id (by omega) (by omega)]
        omega
      exact Ev.step (fun k => by rw [bosunref07_Whole.l1, if_pos (by omega), if_pos (hsg.2 rfl), if_pos (by omega), hd, e, w1]) ih
    | false =>
      have hm : mostN false = 9223372036854775807 := rfl
      rw [hm] at hle
      rw [if_neg Bool.false_ne_true] at ih ⊢
      rw [if_neg Bool.false_ne_true]
      rw [if_neg Bool.false_ne_true] at ih
      have e : wrap64 (wrap64 ((a : Int) * 10) + (d : Int)) = ((10 * a + d : Nat) : Int) := by
        rw [i64_id (x := (a : Int) * 10) (by omega) (by omega), i64_id (by omega) (by omega)]
        omega
      exact Ev.step (fun k => by rw [bosunref07_Whole.l1, if_pos (by omega), if_neg (fun q => Bool.false_ne_true (hsg.1 q)), if_pos (by omega), hd, e, w1]) ih
def mostB (less : Bool) : ByteArray := if less = true then ⟨#[57,50,50,51,51,55,50,48,51,54,56,53,52,55,55,53,56,48,56]⟩ else ⟨#[57,50,50,51,51,55,50,48,51,54,56,53,52,55,55,53,56,48,55]⟩
theorem mostB_val (less : Bool) : valL (mostB less).data.toList 0 = mostN less ∧ (mostB less).data.toList.length = 19 ∧ allD (mostB less).data.toList := by
  cases less
  · exact ⟨by decide, by decide, by unfold allD; decide⟩
  · exact ⟨by decide, by decide, by unfold allD; decide⟩
theorem ref_j4 (s : ByteArray) (hs : s.size ≤ 100000000) (less : Bool) (sg : ByteArray) (hsg : sg.toList = ([45] : List UInt8) ↔ less = true) (hD : allD s.data.toList) (h0 : ¬ (s.size = 0 ∨ (1 < s.size ∧ bt s 0 = 48))) :
    Ev (fun k => bosunref07_Whole.j4 k s sg (mostB less)) (outN (mostN less) (valL s.data.toList 0) less) := by
  have j5 : ∀ b : Bool, (b = true ↔ mostN less < valL s.data.toList 0) → Ev (fun k => bosunref07_Whole.j5 k s sg b) (outN (mostN less) (valL s.data.toList 0) less) := by
    intro b hb
    unfold outN
    by_cases q : b = true
    · rw [if_pos (hb.1 q)]
      exact Ev.step (fun k => by rw [bosunref07_Whole.j5, if_pos q]) (Ev.now _)
    · have hle : ¬ mostN less < valL s.data.toList 0 := fun x => q (hb.2 x)
      rw [if_neg hle]
      have h := ref_l1 s hs less sg hsg hD s.size 0 0 (by omega) (by rw [List.drop_zero]; omega)
      rw [List.drop_zero] at h
      refine Ev.step (fun k => by rw [bosunref07_Whole.j5, if_neg q]) ?_
      cases less with
      | true => exact h
      | false => exact h
  have hl : s.data.toList.length = s.size := len_list s
  have hm : mostN less < 10 ^ 19 ∧ 10 ^ 18 ≤ mostN less := by cases less <;> decide
  by_cases g19 : (s.size : Int) > 19
  · refine Ev.step (fun k => by rw [bosunref07_Whole.j4, if_pos g19]) (j5 true ⟨fun _ => ?_, fun _ => rfl⟩)
    obtain ⟨b, hb, hbt⟩ := drop_at s 0 (by omega)
    rw [List.drop_zero, Nat.zero_add] at hb
    have hbD := hD b (by rw [hb]; exact List.mem_cons_self)
    have hb0 : b.toNat ≠ 48 := fun q => h0 (.inr ⟨by omega, by
      have : bt s 0 = ((b.toNat : Nat) : Int) := hbt.symm
      rw [this, q]
      rfl⟩)
    have hlen : (s.data.toList.drop 1).length = s.size - 1 := by rw [List.length_drop, hl]
    rw [hb, valL, valL_add, hlen]
    have p1 : 10 ^ 19 ≤ 10 ^ (s.size - 1) := Nat.pow_le_pow_right (by decide) (by omega)
    have p2 : 1 * 10 ^ (s.size - 1) ≤ (10 * 0 + (b.toNat - 48)) * 10 ^ (s.size - 1) := Nat.mul_le_mul_right _ (by omega)
    omega
  · by_cases e19 : (s.size : Int) = 19
    · have lv := less_val (mostB less).data.toList s.data.toList (by rw [(mostB_val less).2.1, hl]; omega) (mostB_val less).2.2 hD
      rw [(mostB_val less).1] at lv
      exact Ev.step (fun k => by rw [bosunref07_Whole.j4, if_neg g19, if_pos e19, ByteArray.toList_eq, ByteArray.toList_eq]) (j5 _ lv)
    · refine Ev.step (fun k => by rw [bosunref07_Whole.j4, if_neg g19, if_neg e19]) (j5 false ⟨fun q => (by cases q), fun q => ?_⟩)
      have p0 := valL_lt s.data.toList hD
      rw [hl] at p0
      have p1 : 10 ^ s.size ≤ 10 ^ 18 := Nat.pow_le_pow_right (by decide) (by omega)
      omega
theorem ref_l0 (s : ByteArray) (hs : s.size ≤ 100000000) (less : Bool) (sg : ByteArray) (hsg : sg.toList = ([45] : List UInt8) ↔ less = true) (h0 : ¬ (s.size = 0 ∨ (1 < s.size ∧ bt s 0 = 48))) : ∀ (m i : Nat), i + m = s.size → (digN s s.size 0 = digN s m i) →
    Ev (fun k => bosunref07_Whole.l0 k s sg (i : Int)) (if digN s m i = true then outN (mostN less) (valL s.data.toList 0) less else (0, 12))
  | 0, i, h, hD => by
    rw [digN, if_pos rfl]
    have hA : allD s.data.toList := by
      have := (digN_all s s.size 0 (by omega)).1 (by rw [hD]; rfl)
      rw [List.drop_zero] at this
      exact this
    have r := ref_j4 s hs less sg hsg hA h0
    cases less with
    | true => exact Ev.step (fun k => by rw [bosunref07_Whole.l0, if_neg (by omega), if_pos (hsg.2 rfl)]; rfl) r
    | false => exact Ev.step (fun k => by rw [bosunref07_Whole.l0, if_neg (by omega), if_neg (fun q => Bool.false_ne_true (hsg.1 q))]; rfl) r
  | m + 1, i, h, hD => by
    by_cases c : 48 ≤ bt s (i : Int) ∧ bt s (i : Int) ≤ 57
    · have e : digN s (m + 1) i = digN s m (i + 1) := by rw [digN, if_pos c]
      rw [e] at hD ⊢
      exact Ev.step (fun k => by rw [bosunref07_Whole.l0, if_pos (by omega), if_pos (by omega), dig_is7, decide_eq_true c, Option.bind_some, if_pos rfl, wi (by omega)]) (ref_l0 s hs less sg hsg h0 m (i + 1) (by omega) hD)
    · rw [digN, if_neg c, if_neg Bool.false_ne_true]
      exact Ev.step (fun k => by rw [bosunref07_Whole.l0, if_pos (by omega), if_pos (by omega), dig_is7, decide_eq_false c, Option.bind_some, if_neg Bool.false_ne_true]) (Ev.now _)
theorem ref_j1 (s : ByteArray) (hs : s.size ≤ 100000000) (less : Bool) (sg : ByteArray) (hsg : sg.toList = ([45] : List UInt8) ↔ less = true) : Ev (fun k => bosunref07_Whole.j1 k s sg) (wholeN s less (mostN less)) := by
  have j2 : ∀ b : Bool, (b = true ↔ (s.size = 0 ∨ (1 < s.size ∧ bt s 0 = 48))) → Ev (fun k => bosunref07_Whole.j2 k s sg b) (wholeN s less (mostN less)) := by
    intro b hb
    unfold wholeN
    by_cases q : b = true
    · rw [if_pos (hb.1 q)]
      exact Ev.step (fun k => by rw [bosunref07_Whole.j2, if_pos q]) (Ev.now _)
    · rw [if_neg (fun x => q (hb.2 x))]
      exact Ev.step (fun k => by rw [bosunref07_Whole.j2, if_neg q]; rfl) (ref_l0 s hs less sg hsg (fun x => q (hb.2 x)) s.size 0 (by omega) rfl)
  by_cases h0 : s.size = 0
  · exact Ev.step (fun k => by rw [bosunref07_Whole.j1, if_pos (by omega)]) (j2 true ⟨fun _ => .inl h0, fun _ => rfl⟩)
  · by_cases h1 : (s.size : Int) > 1
    · exact Ev.step (fun k => by rw [bosunref07_Whole.j1, if_neg (by omega), if_pos h1, if_pos (by omega)]) (j2 (bt s 0 == 48) ⟨fun q => .inr ⟨by omega, beq_iff_eq.1 q⟩, fun q => beq_iff_eq.2 (by
        rcases q with q | q
        · exact absurd q h0
        · exact q.2)⟩)
    · exact Ev.step (fun k => by rw [bosunref07_Whole.j1, if_neg (by omega), if_neg h1]) (j2 false ⟨fun q => (by cases q), fun q => by omega⟩)
theorem ref_whole (s : ByteArray) (hs : s.size ≤ 100000000) : Ev (fun k => bosunref07_Whole.f k s) (wholeT s) := by
  have hx : (s.extract 1 s.size).size ≤ 100000000 := by rw [ByteArray.size_extract]; omega
  have j0 : ∀ b : Bool, (b = true ↔ (0 < s.size ∧ bt s 0 = 45)) → Ev (fun k => bosunref07_Whole.j0 k s ⟨#[]⟩ b) (wholeT s) := by
    intro b hb
    unfold wholeT
    cases b with
    | true =>
      have := hb.1 rfl
      rw [if_pos this]
      exact Ev.step (fun k => by rw [bosunref07_Whole.j0, if_pos rfl, if_pos (by omega)]) (ref_j1 _ hx true ⟨#[45]⟩ ⟨fun _ => rfl, fun _ => by rw [ByteArray.toList_eq]⟩)
    | false =>
      rw [if_neg (fun q => Bool.false_ne_true (hb.2 q))]
      exact Ev.step (fun k => by rw [bosunref07_Whole.j0, if_neg Bool.false_ne_true]) (ref_j1 s hs false ⟨#[]⟩ ⟨fun q => (by rw [ByteArray.toList_eq] at q; cases q), fun q => (by cases q)⟩)
  by_cases h0 : (s.size : Int) > 0
  · exact Ev.congr (fun k => by rw [bosunref07_Whole.f, if_pos h0, if_pos (by omega)]) (j0 (bt s 0 == 45) ⟨fun q => ⟨by omega, beq_iff_eq.1 q⟩, fun q => beq_iff_eq.2 q.2⟩)
  · exact Ev.congr (fun k => by rw [bosunref07_Whole.f, if_neg h0]) (j0 false ⟨fun q => (by cases q), fun q => by omega⟩)
end Go.Proofs.YtnkkbiabloodaaaDoor.Pure
