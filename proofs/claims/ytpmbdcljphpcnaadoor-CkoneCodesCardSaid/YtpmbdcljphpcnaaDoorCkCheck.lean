/- ckone's Check: the program's and the document's are one. Plain lemmas. No conditions beside those stated. -/
import Derived.Test.YtpmbdcljphpcnaaDoorCkNames2
import Derived.Test.YtpmbdcljphpcnaaDoorGCkx6
import Derived.Test.YtpmbdcljphpcnaaDoorGCkx12
namespace Go.Proofs.YtpmbdcljphpcnaaDoor.Pure
open Go.RowKit Go.Proofs.YtpmbdcljphpcnaaDoor.GCk Go.Proofs.YtpmbdcljphpcnaaDoor.Split Go.Proofs.YtpmbdcljphpcnaaDoorW.PrintWords Go.Proofs.YtpmbdcljphpcnaaDoorW.PrintLast Go.Proofs.YtpmbdcljphpcnaaDoorW.PrintMore

/-- A pod, as the document has it. -/
def toR (p : S66) : S67 := ⟨p.f0, p.f1, p.f2, p.f3⟩
/-- A pod's texts are short. -/
def Short (M : Nat) (p : S66) : Prop := p.f0.size ≤ M ∧ p.f1.size ≤ M ∧ p.f2.size ≤ M
theorem rd66 (l : List S66) (i : Nat) (h : i < l.length) : rd_T66 l (i : Int) = l[i] := by
  simp [rd_T66, List.getElem?_eq_getElem h]
theorem rd67 (l : List S66) (i : Nat) (h : i < l.length) : rd_T67 (l.map toR) (i : Int) = toR l[i] := by
  simp [rd_T67, List.getElem?_eq_getElem h]
theorem check_loop (l : List S66) (a : Int) (M : Nat) (hM : M ≤ 1000000) (hl : l.length ≤ 100000000) (hs : ∀ p ∈ l, Short M p) : ∀ (m i k : Nat), i + m = l.length → 3 * m + 2 * M + 400 < k →
    ∃ r, ckone_State_Check.l0 k l (l.length : Int) (i : Int) a l = some r ∧ bosunref17_Check.l0 k (i : Int) a (l.map toR) = some r
  | 0, i, k, h, hk => by
    obtain ⟨k, rfl⟩ : ∃ k', k = k' + 1 := ⟨k - 1, by omega⟩
    refine ⟨0, ?_, ?_⟩
    · rw [ckone_State_Check.l0, if_neg (by omega)]
    · rw [bosunref17_Check.l0, if_neg (by rw [List.length_map]; omega)]
  | m + 1, i, k, h, hk => by
    obtain ⟨k, rfl⟩ : ∃ k', k = k' + 1 := ⟨k - 1, by omega⟩
    obtain ⟨k, rfl⟩ : ∃ k', k = k' + 1 := ⟨k - 1, by omega⟩
    obtain ⟨k, rfl⟩ : ∃ k', k = k' + 1 := ⟨k - 1, by omega⟩
    have hi : i < l.length := by omega
    obtain ⟨r, h1, h2⟩ := check_loop l a M hM hl hs m (i + 1) k (by omega) (by omega)
    obtain ⟨s0, s1, s2⟩ := hs l[i] (List.getElem_mem hi)
    have e1 := rd66 l i hi
    have e2 := rd67 l i hi
    rw [ckone_State_Check.l0, if_pos (by omega), if_pos (by omega), if_pos (by omega), bosunref17_Check.l0, if_pos (by rw [List.length_map]; omega), if_pos (by omega), e1, e2]
    have hf1 := file_is (k + 1 + 1) l[i].f0 (by omega) (by omega)
    have hf2 := ref_file_is (k + 1 + 1) l[i].f0 (by omega) (by omega)
    have hn1 := name_is (k + 1 + 1) l[i].f1 (by omega) (by omega)
    have hn2 := ref_name_is (k + 1 + 1) l[i].f1 (by omega) (by omega)
    have hi1 := image_is (k + 1) l[i].f2 (by omega) (by omega)
    have hi2 := ref_image_is (k + 1) l[i].f2 (by omega) (by omega)
    have hw : wrap64 ((i : Int) + 1) = ((i + 1 : Nat) : Int) := by rw [i64_id (by omega) (by omega)]; omega
    have j2 : ∀ x : Bool, ∃ r, ckone_State_Check.j2 (k + 1) l (l.length : Int) (i : Int) x a l l[i].f0 l[i].f1 l[i].f2 l[i].f3 = some r ∧ bosunref17_Check.j2 (k + 1) (i : Int) x a (l.map toR) l[i].f0 l[i].f1 l[i].f2 l[i].f3 = some r := by
      intro x
      rw [ckone_State_Check.j2, bosunref17_Check.j2, hw]
      cases x with
      | true => exact ⟨6, by rw [if_pos rfl], by rw [if_pos rfl]⟩
      | false =>
        rw [if_neg (show ¬ (false = true) by decide), if_neg (show ¬ (false = true) by decide)]
        by_cases h3 : l[i].f3 > 2
        · exact ⟨7, by rw [if_pos h3], by rw [if_pos h3]⟩
        · exact ⟨r, by rw [if_neg h3]; exact h1, by rw [if_neg h3]; exact h2⟩
    have j1 : ∀ x : Bool, ∃ r, ckone_State_Check.j1 (k + 1 + 1) (i : Int) l (l.length : Int) (i : Int) x a l l[i].f0 l[i].f1 l[i].f2 l[i].f3 = some r ∧ bosunref17_Check.j1 (k + 1 + 1) (i : Int) x a (l.map toR) l[i].f0 l[i].f1 l[i].f2 l[i].f3 = some r := by
      intro x
      rw [ckone_State_Check.j1, bosunref17_Check.j1]
      cases x with
      | true => exact ⟨13, by rw [if_pos rfl], by rw [if_pos rfl]⟩
      | false =>
        rw [if_neg (show ¬ (false = true) by decide), if_neg (show ¬ (false = true) by decide), hi1, hi2, Option.bind_some, Option.bind_some]
        cases imgB l[i].f2 with
        | false => exact j2 true
        | true =>
          rw [if_pos rfl, if_pos rfl]
          by_cases h0 : (i : Int) > 0
          · have hpw : wrap64 ((i : Int) - 1) = ((i - 1 : Nat) : Int) := by rw [i64_id (by omega) (by omega)]; omega
            rw [if_pos h0, if_pos h0, hpw, if_pos (by omega), if_pos (by omega), if_pos (by omega), if_pos (by rw [List.length_map]; omega), rd66 l (i - 1) (by omega), rd67 l (i - 1) (by omega)]
            exact j2 _
          · rw [if_neg h0, if_neg h0]
            exact j2 false
    rw [hf1, Option.bind_some]
    show ∃ r, _ ∧ (bosunref04_Name.f (k + 1 + 1) l[i].f0).bind _ = some r
    rw [hf2, Option.bind_some]
    cases fileB l[i].f0 with
    | false => exact j1 true
    | true =>
      rw [if_pos rfl, if_pos rfl, hn1, Option.bind_some]
      show ∃ r, _ ∧ (bosunref13_Name.f (k + 1 + 1) l[i].f1).bind _ = some r
      rw [hn2, Option.bind_some]
      exact j1 _
/-- What is wrong with a state, both ways. -/
theorem check_is (l : List S66) (a : Int) (M : Nat) (hM : M ≤ 1000000) (hl : l.length ≤ 100000000) (hs : ∀ p ∈ l, Short M p) (k : Nat) (hk : 3 * l.length + 2 * M + 400 < k) :
    ∃ r, ckone_State_Check.f k a l = some r ∧ bosunref17_Check.f k a (l.map toR) = some r := by
  rw [ckone_State_Check.f, bosunref17_Check.f]
  by_cases h : (l.length : Int) > 1024
  · exact ⟨18, by rw [if_pos h], by rw [if_pos (by rw [List.length_map]; exact h)]⟩
  · rw [if_neg h, if_neg (by rw [List.length_map]; exact h)]
    exact check_loop l a M hM hl hs l.length 0 k (by omega) hk
theorem check_fit (l : List S66) (a : Int) (M : Nat) (hM : M ≤ 1000000) (hl : l.length ≤ 100000000) (hs : ∀ p ∈ l, Short M p) : ∀ (m i k : Nat), i + m = l.length → 3 * m + 2 * M + 400 < k →
    ckone_State_Check.l0 k l (l.length : Int) (i : Int) a l = some 0 → ∀ p ∈ l.drop i, p.f0.size ≤ 64 ∧ p.f1.size ≤ 253 ∧ p.f2.size ≤ 255
  | 0, i, k, h, hk, _ => by
    rw [List.drop_eq_nil_of_le (by omega)]
    exact fun p hp => by cases hp
  | m + 1, i, k, h, hk, hc => by
    obtain ⟨k, rfl⟩ : ∃ k', k = k' + 1 := ⟨k - 1, by omega⟩
    obtain ⟨k, rfl⟩ : ∃ k', k = k' + 1 := ⟨k - 1, by omega⟩
    obtain ⟨k, rfl⟩ : ∃ k', k = k' + 1 := ⟨k - 1, by omega⟩
    have hi : i < l.length := by omega
    have ih := check_fit l a M hM hl hs m (i + 1) k (by omega) (by omega)
    obtain ⟨s0, s1, s2⟩ := hs l[i] (List.getElem_mem hi)
    have e1 := rd66 l i hi
    rw [ckone_State_Check.l0, if_pos (by omega), if_pos (by omega), if_pos (by omega), e1] at hc
    have hf1 := file_is (k + 1 + 1) l[i].f0 (by omega) (by omega)
    have hn1 := name_is (k + 1 + 1) l[i].f1 (by omega) (by omega)
    have hi1 := image_is (k + 1) l[i].f2 (by omega) (by omega)
    have hw : wrap64 ((i : Int) + 1) = ((i + 1 : Nat) : Int) := by rw [i64_id (by omega) (by omega)]; omega
    have j2 : ∀ x : Bool, ckone_State_Check.j2 (k + 1) l (l.length : Int) (i : Int) x a l l[i].f0 l[i].f1 l[i].f2 l[i].f3 = some 0 → ckone_State_Check.l0 k l (l.length : Int) ((i + 1 : Nat) : Int) a l = some 0 := by
      intro x h2
      rw [ckone_State_Check.j2, hw] at h2
      cases x with
      | true => rw [if_pos rfl] at h2; cases h2
      | false =>
        rw [if_neg (show ¬ (false = true) by decide)] at h2
        by_cases h3 : l[i].f3 > 2
        · rw [if_pos h3] at h2; cases h2
        · rw [if_neg h3] at h2; exact h2
    have j1 : ∀ x : Bool, ckone_State_Check.j1 (k + 1 + 1) (i : Int) l (l.length : Int) (i : Int) x a l l[i].f0 l[i].f1 l[i].f2 l[i].f3 = some 0 → x = false ∧ imgB l[i].f2 = true ∧ ckone_State_Check.l0 k l (l.length : Int) ((i + 1 : Nat) : Int) a l = some 0 := by
      intro x h2
      rw [ckone_State_Check.j1] at h2
      cases x with
      | true => rw [if_pos rfl] at h2; cases h2
      | false =>
        rw [if_neg (show ¬ (false = true) by decide), hi1, Option.bind_some] at h2
        cases hb : imgB l[i].f2 with
        | false =>
          rw [hb] at h2
          replace h2 : ckone_State_Check.j2 (k + 1) l (l.length : Int) (i : Int) true a l l[i].f0 l[i].f1 l[i].f2 l[i].f3 = some 0 := h2
          rw [ckone_State_Check.j2, if_pos rfl] at h2
          cases h2
        | true =>
          rw [hb, if_pos rfl] at h2
          refine ⟨rfl, rfl, ?_⟩
          by_cases h0 : (i : Int) > 0
          · have hpw : wrap64 ((i : Int) - 1) = ((i - 1 : Nat) : Int) := by rw [i64_id (by omega) (by omega)]; omega
            rw [if_pos h0, hpw, if_pos (by omega), if_pos (by omega), rd66 l (i - 1) (by omega)] at h2
            exact j2 _ h2
          · rw [if_neg h0] at h2
            exact j2 _ h2
    rw [hf1, Option.bind_some] at hc
    cases hf : fileB l[i].f0 with
    | false =>
      rw [hf] at hc
      exact absurd (j1 true hc).1 (by decide)
    | true =>
      rw [hf, if_pos rfl, hn1, Option.bind_some] at hc
      obtain ⟨h1, h2, h3⟩ := j1 _ hc
      have hn : nameB l[i].f1 = true := by
        cases hq : nameB l[i].f1 with
        | true => rfl
        | false => rw [hq] at h1; exact absurd h1 (by decide)
      rw [List.drop_eq_getElem_cons hi]
      intro p hp
      rcases List.mem_cons.1 hp with rfl | hp
      · simp only [fileB, nameB, imgB, Bool.and_eq_true, decide_eq_true_eq] at hf hn h2
        exact ⟨hf.2.2, by omega, h2.2.1⟩
      · exact ih h3 p hp
theorem check_fits (l : List S66) (a : Int) (M : Nat) (hM : M ≤ 1000000) (hl : l.length ≤ 100000000) (hs : ∀ p ∈ l, Short M p) (k : Nat) (hk : 3 * l.length + 2 * M + 400 < k) (hc : ckone_State_Check.f k a l = some 0) :
    ∀ p ∈ l, p.f0.size ≤ 64 ∧ p.f1.size ≤ 253 ∧ p.f2.size ≤ 255 := by
  rw [ckone_State_Check.f] at hc
  by_cases h : (l.length : Int) > 1024
  · rw [if_pos h] at hc; cases hc
  · rw [if_neg h] at hc
    have := check_fit l a M hM hl hs l.length 0 k (by omega) hk hc
    rwa [List.drop_zero] at this
end Go.Proofs.YtpmbdcljphpcnaaDoor.Pure
