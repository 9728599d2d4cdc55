/- evict: EvictStands' plain law. No program in sight but its plain functions. -/
import Derived.Test.YthnbkhggbfnpcaaEvPure
namespace Go.Proofs.Ythnbkhggbfnpcaa.Ev
open Go.Proofs.Ythnbkhggbfnpcaa.GEv Go.RowKit Go.Proofs.YthnbkhggbfnpcaaW.PrintWords
set_option linter.unusedVariables false
set_option linter.unusedSimpArgs false
def filesOf (l : List S27) : List ByteArray := (ordered l).map (fun x => x.f0.f0)
theorem filesOf_len (l : List S27) : (filesOf l).length = l.length := by unfold filesOf; rw [List.length_map, ordered_len]
theorem first_f (l : List S27) (k : Int) (hk : k ≤ 9223372036854775807) : evict_First.f l k = some ((filesOf l).take k.toNat) := by
  unfold evict_First.f
  by_cases c : k < 1
  · rw [if_pos c, show k.toNat = 0 by omega, List.take_zero]
  · rw [if_neg c, takeL_run, pops_items]
    exact congrArg some (runK _ k (by omega) hk)
theorem ordered_perm (l : List S27) : (ordered l).Perm (items l) := order_perm (d := z55) aheadI_weak l.length (items l) (items_len l)
theorem ordered_sorted (l : List S27) : Sorted lessI (ordered l) := order_sorted (d := z55) aheadI_weak (fun x : S55 => x.f1) l.length (items l) (items_len l) (items_rise l)
theorem items_mem {l : List S27} {x : S55} (h : x ∈ items l) : x.f0 ∈ l := by
  unfold items at h
  obtain ⟨i, hi, rfl⟩ := mem_row.1 h
  simp [itemF, List.getD, hi]
theorem items_files (l : List S27) : (items l).map (fun x => x.f0.f0) = l.map (·.f0) := by
  apply List.ext_getElem
  · simp [items_len]
  · intro i h1 h2
    have hi : i < l.length := by simpa using h2
    simp [items, row, itemF, List.getD, hi]
theorem one_file {l : List S27} (h : (l.map (·.f0)).Nodup) {x y : S27} (hx : x ∈ l) (hy : y ∈ l) (e : x.f0 = y.f0) : x = y := by
  obtain ⟨i, hi, rfl⟩ := List.getElem_of_mem hx
  obtain ⟨j, hj, rfl⟩ := List.getElem_of_mem hy
  have h1 : (l.map (·.f0))[i]'(by simpa using hi) = (l.map (·.f0))[j]'(by simpa using hj) := by simpa using e
  have h2 := (List.getElem_inj h).1 h1
  subst h2
  rfl
theorem rd_files (l : List S27) (i : Nat) (h : i < (ordered l).length) : rdOf ByteArray.empty (filesOf l) (i : Int) = ((ordered l)[i]).f0.f0 := by
  simp [rdOf, filesOf, List.getD, h]
theorem stands_pure (l : List S27) (h : (l.map (·.f0)).Nodup) : (filesOf l).Nodup ∧ ∀ i : Nat, i < (filesOf l).length → ∃ x ∈ l, rdOf ByteArray.empty (filesOf l) (i : Int) = x.f0 ∧ ∀ y ∈ l, (0 < i → rdOf ByteArray.empty (filesOf l) ((i : Int) - 1) = y.f0 → aheadB x.f0 x.f1 x.f2 y.f0 y.f1 y.f2 = false) := by
  refine ⟨?_, fun i hi => ?_⟩
  · have hp := (ordered_perm l).map (fun x : S55 => x.f0.f0)
    rw [items_files] at hp
    exact hp.nodup_iff.2 h
  · have hio : i < (ordered l).length := by rw [ordered_len]; rw [filesOf_len] at hi; exact hi
    refine ⟨((ordered l)[i]).f0, items_mem ((ordered_perm l).mem_iff.1 (List.getElem_mem hio)), rd_files l i hio, fun y hy h0 he => ?_⟩
    have hi1 : i - 1 < (ordered l).length := by omega
    rw [show (i : Int) - 1 = ((i - 1 : Nat) : Int) by omega, rd_files l (i - 1) hi1] at he
    have hm : ((ordered l)[i - 1]).f0 ∈ l := items_mem ((ordered_perm l).mem_iff.1 (List.getElem_mem hi1))
    have hy2 := one_file h hm hy he
    subst hy2
    have hs := List.pairwise_iff_getElem.1 (ordered_sorted l) (i - 1) i hi1 hio (by omega)
    exact (lex_false.1 hs).1
theorem stands_texts (l : List S27) (k : Int) (hl : l.length ≤ 40) : bosunlaw24_texts.f (((filesOf l).take k.toNat).length + 1) ((filesOf l).take k.toNat) ((filesOf l).take k.toNat) = some true := by
  refine texts_f _ ?_
  have h1 := filesOf_len l
  have h2 := List.length_take_le' k.toNat (filesOf l)
  omega
theorem first_all (l : List S27) (hl : l.length ≤ 40) : evict_First.f l (l.length : Int) = some (filesOf l) := by
  rw [first_f l _ (by omega), Int.toNat_natCast, List.take_of_length_le (by rw [filesOf_len]; exact Nat.le_refl _)]
end Go.Proofs.Ythnbkhggbfnpcaa.Ev
