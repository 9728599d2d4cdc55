/- Names of dns: the program's test and the document's are one. Plain lemmas. No conditions beside those stated. -/
import Derived.Test.YtpmbdcljphpcnaaDoorCkNames
namespace Go.Proofs.YtpmbdcljphpcnaaDoor.Pure
open Go.RowKit Go.Proofs.YtpmbdcljphpcnaaDoor.GCk Go.Proofs.YtpmbdcljphpcnaaDoor.Split Go.Proofs.YtpmbdcljphpcnaaDoorW.PrintWords Go.Proofs.YtpmbdcljphpcnaaDoorW.PrintLast Go.Proofs.YtpmbdcljphpcnaaDoorW.PrintMore

theorem bt_46 (s : ByteArray) (j : Nat) (hj : j < s.size) : bt s j = 46 ↔ s.data.toList[j]? = some 46 := by
  have hl : j < s.data.toList.length := by rw [Array.length_toList]; exact hj
  rw [List.getElem?_eq_getElem hl, Array.getElem_toList]
  simp only [bt, Int.toNat_natCast]
  rw [dif_pos hj]
  constructor
  · intro h
    have h1 : (s[j]).toNat = 46 := by omega
    have h2 : s[j] = 46 := UInt8.toNat_inj.1 h1
    exact congrArg some h2
  · intro h
    have h2 : s[j] = 46 := Option.some.inj h
    rw [h2]
    rfl
theorem data_from (s : ByteArray) (a : Nat) : (s.extract a s.size).data.toList = s.data.toList.drop a := by
  rw [ByteArray.data_extract, Array.toList_extract]
  show (s.data.toList.drop a).take (s.data.size - a) = _
  rw [List.take_of_length_le (by rw [List.length_drop, Array.length_toList]; exact Nat.le_refl _)]
theorem texts_last (s : ByteArray) (a : Nat) (hn : ∀ j : Nat, a ≤ j → j < s.size → bt s j ≠ 46) : texts 46 (s.extract a s.size) = [s.extract a s.size] := by
  unfold texts
  rw [pieces_none 46 _ (fun k hk => ?_)]
  · rfl
  · rw [data_from, List.getElem?_drop] at hk
    have hlt : a + k < s.size := by
      have := (List.getElem?_eq_some_iff.1 hk).1
      rw [Array.length_toList] at this
      exact this
    exact hn (a + k) (by omega) hlt ((bt_46 s _ hlt).2 hk)
theorem texts_next (s : ByteArray) (a i : Nat) (hai : a ≤ i) (hi : i < s.size) (hd : bt s i = 46) (hn : ∀ j : Nat, a ≤ j → j < i → bt s j ≠ 46) : texts 46 (s.extract a s.size) = s.extract a i :: texts 46 (s.extract (i + 1) s.size) := by
  unfold texts
  have hp := pieces_some 46 (s.data.toList.drop a) (i - a) (by rw [List.getElem?_drop, show a + (i - a) = i by omega]; exact (bt_46 s i hi).1 hd)
    (fun k hk e => by
      rw [List.getElem?_drop] at e
      exact hn (a + k) (by omega) (by omega) ((bt_46 s _ (by omega)).2 e))
  rw [data_from, hp, data_from, List.map_cons, List.drop_drop, show a + (i - a + 1) = i + 1 by omega]
  refine congrArg (· :: _) ?_
  apply ByteArray.ext
  rw [ByteArray.data_extract]
  apply Array.ext'
  rw [Array.toList_extract]
theorem cut_is (s : ByteArray) (hs : s.size ≤ 1000000000) : ∀ (m i a k : Nat) (acc : List ByteArray), i + m = s.size → a ≤ i → (∀ j : Nat, a ≤ j → j < i → bt s j ≠ 46) → acc.length + m ≤ 1000000000 → m + 1 < k →
    bosunref13_cut.l0 k s acc (a : Int) (i : Int) = some (acc ++ texts 46 (s.extract a s.size))
  | 0, i, a, k, acc, h, ha, hn, hl, hk => by
    obtain ⟨k, rfl⟩ : ∃ k', k = k' + 1 := ⟨k - 1, by omega⟩
    obtain ⟨k, rfl⟩ : ∃ k', k = k' + 1 := ⟨k - 1, by omega⟩
    obtain rfl : i = s.size := h
    rw [bosunref13_cut.l0, if_pos (by omega), if_pos rfl, if_pos (by omega), if_pos (by omega), if_pos (by omega), i64_id (by omega) (by omega), bosunref13_cut.l0, if_neg (by omega), texts_last s a (fun j h1 h2 => hn j h1 h2)]
    rfl
  | m + 1, i, a, k, acc, h, ha, hn, hl, hk => by
    obtain ⟨k, rfl⟩ : ∃ k', k = k' + 1 := ⟨k - 1, by omega⟩
    have hi : i < s.size := by omega
    rw [bosunref13_cut.l0, if_pos (by omega), if_neg (by omega), if_pos (by omega), if_pos (by omega)]
    by_cases hd : bt s i = 46
    · rw [if_pos hd, if_pos (by omega), if_pos (by omega), if_pos (by omega), i64_id (by omega) (by omega)]
      have := cut_is s hs m (i + 1) (i + 1) k (acc ++ [s.extract a i]) (by omega) (Nat.le_refl _) (fun j h1 h2 => by omega) (by simp; omega) (by omega)
      refine Eq.trans ?_ (this.trans ?_)
      · rfl
      · rw [texts_next s a i ha hi hd hn]
        simp
    · rw [if_neg hd, i64_id (by omega) (by omega)]
      exact cut_is s hs m (i + 1) a k acc (by omega) (by omega) (fun j h1 h2 => by
        rcases Nat.lt_or_ge j i with h3 | h3
        · exact hn j h1 h3
        · obtain rfl : j = i := by omega
          exact hd) (by omega) (by omega)
theorem whole_is (s : ByteArray) : s.extract 0 s.size = s := by
  apply ByteArray.ext
  rw [ByteArray.data_extract]
  apply Array.ext'
  rw [Array.toList_extract]
  show (s.data.toList.drop 0).take (s.data.size - 0) = _
  rw [List.drop_zero, Nat.sub_zero, List.take_of_length_le (by rw [Array.length_toList]; exact Nat.le_refl _)]
theorem glue_len (c : UInt8) : ∀ l : List UInt8, ((pieces c l).map List.length).sum + (pieces c l).length = l.length + 1
  | [] => rfl
  | x :: l => by
    have ih := glue_len c l
    cases h : pieces c l with
    | nil => exact absurd h (pieces_ne c l)
    | cons p ps =>
      rw [h] at ih
      rw [pieces, h]
      split
      · simp at ih ⊢; omega
      · simp at ih ⊢; omega
theorem le_sum : ∀ (l : List Nat) (x : Nat), x ∈ l → x ≤ l.sum
  | [], _, h => by cases h
  | y :: l, x, h => by
    rw [List.sum_cons]
    rcases List.mem_cons.1 h with rfl | h
    · omega
    · have := le_sum l x h
      omega
theorem texts_small (c : UInt8) (s : ByteArray) : (texts c s).length ≤ s.size + 1 ∧ ∀ p ∈ texts c s, p.size ≤ s.size := by
  have h := glue_len c s.data.toList
  have hs : s.data.toList.length = s.size := Array.length_toList
  constructor
  · simp only [texts, List.length_map]; omega
  · intro p hp
    obtain ⟨l, hl, rfl⟩ := List.mem_map.1 hp
    have h1 : l.length ≤ ((pieces c s.data.toList).map List.length).sum := le_sum _ _ (List.mem_map.2 ⟨l, hl, rfl⟩)
    have h2 : 1 ≤ (pieces c s.data.toList).length := List.length_pos_of_mem hl
    show l.toArray.size ≤ s.size
    rw [List.size_toArray]
    omega
/-- Is it a name? -/
def nameB (s : ByteArray) : Bool := (texts 46 s).all labB && decide ((s.size : Int) ≤ 253)
theorem labels_is (k : Nat) : ∀ l : List ByteArray, (∀ p ∈ l, p.size ≤ 140737488351232 ∧ p.size + 1 < k) → labels k l = some (l.all labB)
  | [], _ => rfl
  | p :: l, h => by
    rw [labels, label_is k p (h p (by simp)).1 (h p (by simp)).2, Option.bind_some, labels_is k l (fun q hq => h q (List.mem_cons_of_mem _ hq)), List.all_cons]
    cases labB p <;> rfl
theorem name_is (k : Nat) (s : ByteArray) (hs : s.size ≤ 140737488351232) (hk : s.size + 1 < k) : dns_Name.f k s = some (nameB s) := by
  rw [dns_Name.f, if_pos hs, labels_is k _ (fun p hp => by have := (texts_small 46 s).2 p hp; omega), Option.bind_some, nameB]
  cases (texts 46 s).all labB <;> rfl
theorem ref_name_is (k : Nat) (s : ByteArray) (hs : s.size ≤ 100000000) (hk : 2 * s.size + 200 < k) : bosunref13_Name.f k s = some (nameB s) := by
  have hts := texts_small 46 s
  have hc : bosunref13_cut.f k s = some (texts 46 s) := by
    have := cut_is s (by omega) s.size 0 0 k [] (by omega) (Nat.le_refl _) (fun j h1 h2 => by omega) (by simp; omega) (by omega)
    rw [whole_is, List.nil_append] at this
    exact this
  rw [bosunref13_Name.f, hc, Option.bind_some, nameB]
  obtain ⟨c, hc0⟩ : ∃ c, c = s.size + 150 := ⟨_, rfl⟩
  obtain ⟨k, rfl⟩ : ∃ k', k = k' + c := ⟨k - c, by omega⟩
  refine (all_loop (texts 46 s).length (fun k i => bosunref13_Name.l0 (k + c) s (texts 46 s) i) (fun j => labB ((texts 46 s).getD j ByteArray.empty)) (decide ((s.size : Int) ≤ 253)) (fun k i hi => ?_) (fun k => ?_) (texts 46 s).length 0 k (by omega) (by omega)).trans ?_
  · show bosunref13_Name.l0 (k + 1 + c) s (texts 46 s) (i : Int) = _
    rw [show k + 1 + c = (k + c) + 1 by omega]
    have hp : (texts 46 s).getD i ByteArray.empty ∈ texts 46 s := by
      rw [List.getD_eq_getElem?_getD, List.getElem?_eq_getElem hi]
      exact List.getElem_mem hi
    have hz := hts.2 _ hp
    rw [bosunref13_Name.l0, if_pos (by omega), if_pos (by omega), show rdOf ByteArray.empty (texts 46 s) (i : Int) = (texts 46 s).getD i ByteArray.empty from rfl, ref_label_is _ _ (by omega) (by omega), Option.bind_some, i64_id (by omega) (by omega)]
    rfl
  · show bosunref13_Name.l0 (k + 1 + c) s (texts 46 s) ((texts 46 s).length : Int) = _
    rw [show k + 1 + c = (k + c) + 1 by omega]
    rw [bosunref13_Name.l0, if_neg (by omega)]
  · refine congrArg some (congrArg (· && _) ?_)
    rw [Bool.eq_iff_iff, List.all_eq_true, List.all_eq_true]
    constructor
    · intro h p hp
      obtain ⟨j, hj, rfl⟩ := List.mem_iff_getElem.1 hp
      have := h j (List.mem_range'_1.2 ⟨by omega, by omega⟩)
      rw [List.getD_eq_getElem?_getD, List.getElem?_eq_getElem hj] at this
      exact this
    · intro h j hj
      have hj' : j < (texts 46 s).length := by have := (List.mem_range'_1.1 hj).2; omega
      rw [List.getD_eq_getElem?_getD, List.getElem?_eq_getElem hj']
      exact h _ (List.getElem_mem hj')
end Go.Proofs.YtpmbdcljphpcnaaDoor.Pure
