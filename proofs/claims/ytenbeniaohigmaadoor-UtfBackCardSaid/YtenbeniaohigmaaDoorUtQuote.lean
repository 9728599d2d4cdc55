/- Quoted texts: the awake example; validity by Go's decoder is the table's. Plain lemmas. No conditions beside those stated. -/
import Derived.Test.YtenbeniaohigmaaDoorUtMath
import Derived.Test.YtenbeniaohigmaaDoorGUtValid
import Derived.Test.YtenbeniaohigmaaDoorGUtx2
namespace Go.Proofs.YtenbeniaohigmaaDoor.Pure
open Go.RowKit Go.Proofs.YtenbeniaohigmaaDoor.GUt Go.Proofs.YtenbeniaohigmaaDoorW.PrintWords Go.Proofs.YtenbeniaohigmaaDoorW.PrintLast Go.Proofs.YtenbeniaohigmaaDoorW.PrintMore

theorem awake06 (k : Nat) (hk : 20 ≤ k) : bosunlaw06_Awake.f k = some true := by
  have h : bosunlaw06_Awake.f 20 = some true := by decide +kernel
  exact at_rounds (fun k => bosunlaw06_Awake.mono k) hk h
theorem data_from (s : ByteArray) (a : Nat) : (s.extract a s.size).data.toList = s.data.toList.drop a := by
  rw [ByteArray.data_extract, Array.toList_extract]
  show (s.data.toList.drop a).take (s.data.size - a) = _
  rw [List.take_of_length_le (by rw [List.length_drop, Array.length_toList]; exact Nat.le_refl _)]
theorem decL_is (s : ByteArray) (i : Nat) : Lib.decodeL (s.data.toList.drop i) = Utf8.decode (s.extract i s.size) 0 := by
  unfold Lib.decodeL
  congr 1
  apply ByteArray.ext
  apply Array.ext'
  rw [data_from]
theorem valid_loop (s : ByteArray) : ∀ (n i : Nat), i ≤ s.size → s.size - i ≤ n → Lib.validGoD n (s.data.toList.drop i) = chain s n i
  | 0, _, _, _ => rfl
  | n + 1, i, hi, hn => by
    have hl : s.data.toList.length = s.size := Array.length_toList
    rw [Lib.validGoD, chain]
    by_cases h : i < s.size
    · have hne : ¬ s.data.toList.drop i = [] := fun e => by
        have := congrArg List.length e
        rw [List.length_drop, hl] at this
        simp at this
        omega
      have hf := charN_fit s i h
      rw [if_neg hne, if_pos h, decL_is]
      rcases dec_char s i h with ⟨h0, hd⟩ | ⟨c, h0, hd, h1⟩
      · rw [hd, if_pos h0, if_pos ⟨rfl, rfl⟩]
      · rw [hd, if_neg h0, if_neg (fun q => by
          have := h1 q.2
          have := q.1
          simp only [] at this
          omega), List.drop_drop]
        exact valid_loop s n (i + charN s i) hf.1 (by omega)
    · rw [if_pos (List.drop_eq_nil_of_le (by omega)), if_neg h]
theorem valid_is (s : ByteArray) (hs : s.size ≤ 1000000000) : utf8_ValidString.f s = some (chain s s.size 0) := by
  have hl : s.data.toList.length = s.size := Array.length_toList
  rw [utf8_ValidString.f, if_pos (by omega), Lib.validD, hl]
  have := valid_loop s s.size 0 (by omega) (by omega)
  rw [List.drop_zero] at this
  rw [this]
end Go.Proofs.YtenbeniaohigmaaDoor.Pure
