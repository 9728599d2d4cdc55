/- Names of dns: the program's test and the document's are one. Plain lemmas. No conditions beside those stated. -/
import Derived.Test.YtpmbdcljphpcnaaDoorCkNames
namespace Go.Proofs.YtpmbdcljphpcnaaDoor.Pure
open Go.RowKit Go.Proofs.YtpmbdcljphpcnaaDoor.GCk Go.Proofs.YtpmbdcljphpcnaaDoor.Split Go.Proofs.YtpmbdcljphpcnaaDoorW.PrintWords Go.Proofs.YtpmbdcljphpcnaaDoorW.PrintLast Go.Proofs.YtpmbdcljphpcnaaDoorW.PrintMore

theorem glue_len (c : UInt8) : ∀ l : List UInt8, ((pieces c l).map List.length).sum + (pieces c l).length = l.length + 1
  | [] => rfl
  | x :: l => by
    have ih := glue_len c l
    cases h : pieces c l with
    | nil => exact absurd h (pieces_ne c l)
    | cons p ps =>
      rw [h] at ih
      rw [pieces, h]
      split
      · simp at ih ⊢; omega
      · simp at ih ⊢; omega
theorem le_sum : ∀ (l : List Nat) (x : Nat), x ∈ l → x ≤ l.sum
  | [], _, h => by cases h
  | y :: l, x, h => by
    rw [List.sum_cons]
    rcases List.mem_cons.1 h with rfl | h
    · omega
    · have := le_sum l x h
      omega
theorem texts_small (c : UInt8) (s : ByteArray) : (texts c s).length ≤ s.size + 1 ∧ ∀ p ∈ texts c s, p.size ≤ s.size := by
  have h := glue_len c s.data.toList
  have hs : s.data.toList.length = s.size := Array.length_toList
  constructor
  · simp only [texts, List.length_map]; omega
  · intro p hp
    obtain ⟨l, hl, rfl⟩ := List.mem_map.1 hp
    have h1 : l.length ≤ ((pieces c s.data.toList).map List.length).sum := le_sum _ _ (List.mem_map.2 ⟨l, hl, rfl⟩)
    have h2 : 1 ≤ (pieces c s.data.toList).length := List.length_pos_of_mem hl
    show l.toArray.size ≤ s.size
    rw [List.size_toArray]
    omega
/-- Is it a name? -/
def nameB (s : ByteArray) : Bool := (texts 46 s).all labB && decide ((s.size : Int) ≤ 253)
theorem labels_is (k : Nat) : ∀ l : List ByteArray, (∀ p ∈ l, p.size ≤ 140737488351232 ∧ p.size + 1 < k) → labels k l = some (l.all labB)
  | [], _ => rfl
  | p :: l, h => by
    rw [labels, label_is k p (h p (by simp)).1 (h p (by simp)).2, Option.bind_some, labels_is k l (fun q hq => h q (List.mem_cons_of_mem _ hq)), List.all_cons]
    cases labB p <;> rfl
theorem name_is (k : Nat) (s : ByteArray) (hs : s.size ≤ 140737488351232) (hk : s.size + 1 < k) : dns_Name.f k s = some (nameB s) := by
  rw [dns_Name.f, if_pos hs, labels_is k _ (fun p hp => by have := (texts_small 46 s).2 p hp; omega), Option.bind_some, nameB]
  cases (texts 46 s).all labB <;> rfl
end Go.Proofs.YtpmbdcljphpcnaaDoor.Pure
