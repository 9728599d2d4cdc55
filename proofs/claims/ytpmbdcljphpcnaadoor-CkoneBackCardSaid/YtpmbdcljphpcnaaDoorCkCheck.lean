/- ckone's Check: what it comes to. Plain lemmas. No conditions beside those stated. -/
import Derived.Test.YtpmbdcljphpcnaaDoorCkNames2
import Derived.Test.YtpmbdcljphpcnaaDoorGCkx6
namespace Go.Proofs.YtpmbdcljphpcnaaDoor.Pure
open Go.RowKit Go.Proofs.YtpmbdcljphpcnaaDoor.GCk Go.Proofs.YtpmbdcljphpcnaaDoor.Split Go.Proofs.YtpmbdcljphpcnaaDoorW.PrintWords Go.Proofs.YtpmbdcljphpcnaaDoorW.PrintLast Go.Proofs.YtpmbdcljphpcnaaDoorW.PrintMore

/-- A pod's texts are short. -/
def Short (M : Nat) (p : S66) : Prop := p.f0.size ≤ M ∧ p.f1.size ≤ M ∧ p.f2.size ≤ M
theorem rd66 (l : List S66) (i : Nat) (h : i < l.length) : rd_T66 l (i : Int) = l[i] := by
  simp [rd_T66, List.getElem?_eq_getElem h]
theorem check_loop (l : List S66) (a : Int) (M : Nat) (hM : M ≤ 1000000) (hl : l.length ≤ 100000000) (hs : ∀ p ∈ l, Short M p) : ∀ (m i k : Nat), i + m = l.length → 3 * m + 2 * M + 400 < k →
    ∃ r, ckone_State_Check.l0 k l (l.length : Int) (i : Int) a l = some r
  | 0, i, k, h, hk => by
    obtain ⟨k, rfl⟩ : ∃ k', k = k' + 1 := ⟨k - 1, by omega⟩
    refine ⟨0, ?_⟩
    rw [ckone_State_Check.l0, if_neg (by omega)]
  | m + 1, i, k, h, hk => by
    obtain ⟨k, rfl⟩ : ∃ k', k = k' + 1 := ⟨k - 1, by omega⟩
    obtain ⟨k, rfl⟩ : ∃ k', k = k' + 1 := ⟨k - 1, by omega⟩
    obtain ⟨k, rfl⟩ : ∃ k', k = k' + 1 := ⟨k - 1, by omega⟩
    have hi : i < l.length := by omega
    obtain ⟨r, h1⟩ := check_loop l a M hM hl hs m (i + 1) k (by omega) (by omega)
    obtain ⟨s0, s1, s2⟩ := hs l[i] (List.getElem_mem hi)
    have e1 := rd66 l i hi
    rw [ckone_State_Check.l0, if_pos (by omega), if_pos (by omega), if_pos (by omega), e1]
    have hf1 := file_is (k + 1 + 1) l[i].f0 (by omega) (by omega)
    have hn1 := name_is (k + 1 + 1) l[i].f1 (by omega) (by omega)
    have hi1 := image_is (k + 1) l[i].f2 (by omega) (by omega)
    have hw : wrap64 ((i : Int) + 1) = ((i + 1 : Nat) : Int) := by rw [i64_id (by omega) (by omega)]; omega
    have j2 : ∀ x : Bool, ∃ r, ckone_State_Check.j2 (k + 1) l (l.length : Int) (i : Int) x a l l[i].f0 l[i].f1 l[i].f2 l[i].f3 = some r := by
      intro x
      rw [ckone_State_Check.j2, hw]
      cases x with
      | true => exact ⟨6, by rw [if_pos rfl]⟩
      | false =>
        rw [if_neg (show ¬ (false = true) by decide)]
        by_cases h3 : l[i].f3 > 2
        · exact ⟨7, by rw [if_pos h3]⟩
        · exact ⟨r, by rw [if_neg h3]; exact h1⟩
    have j1 : ∀ x : Bool, ∃ r, ckone_State_Check.j1 (k + 1 + 1) (i : Int) l (l.length : Int) (i : Int) x a l l[i].f0 l[i].f1 l[i].f2 l[i].f3 = some r := by
      intro x
      rw [ckone_State_Check.j1]
      cases x with
      | true => exact ⟨13, by rw [if_pos rfl]⟩
      | false =>
        rw [if_neg (show ¬ (false = true) by decide), hi1, Option.bind_some]
        cases imgB l[i].f2 with
        | false => exact j2 true
        | true =>
          rw [if_pos rfl]
          by_cases h0 : (i : Int) > 0
          · have hpw : wrap64 ((i : Int) - 1) = ((i - 1 : Nat) : Int) := by rw [i64_id (by omega) (by omega)]; omega
            rw [if_pos h0, hpw, if_pos (by omega), if_pos (by omega), rd66 l (i - 1) (by omega)]
            exact j2 _
          · rw [if_neg h0]
            exact j2 false
    rw [hf1, Option.bind_some]
    cases fileB l[i].f0 with
    | false => exact j1 true
    | true =>
      rw [if_pos rfl, hn1, Option.bind_some]
      exact j1 _
/-- What is wrong with a state: an answer comes. -/
theorem check_some (l : List S66) (a : Int) (M : Nat) (hM : M ≤ 1000000) (hl : l.length ≤ 100000000) (hs : ∀ p ∈ l, Short M p) (k : Nat) (hk : 3 * l.length + 2 * M + 400 < k) :
    ∃ r, ckone_State_Check.f k a l = some r := by
  rw [ckone_State_Check.f]
  by_cases h : (l.length : Int) > 1024
  · exact ⟨18, by rw [if_pos h]⟩
  · rw [if_neg h]
    exact check_loop l a M hM hl hs l.length 0 k (by omega) hk
end Go.Proofs.YtpmbdcljphpcnaaDoor.Pure
