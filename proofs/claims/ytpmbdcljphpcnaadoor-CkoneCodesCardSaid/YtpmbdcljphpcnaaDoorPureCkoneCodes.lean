/- CkoneCodes, the pure statement: the bytes of any state, or what is wrong with it, and whether two are alike, are the document's; for every input. -/
import Derived.Test.YtpmbdcljphpcnaaDoorCkBytes
import Derived.Test.YtpmbdcljphpcnaaDoorGCkCkoneCodesS
namespace Go.Proofs.YtpmbdcljphpcnaaDoor.Pure
open Go.RowKit Go.Proofs.YtpmbdcljphpcnaaDoor.GCk Go.Proofs.YtpmbdcljphpcnaaDoorW.PrintWords Go.Proofs.YtpmbdcljphpcnaaDoorW.PrintLast Go.Proofs.YtpmbdcljphpcnaaDoorW.PrintMore

theorem awake17 (k : Nat) (hk : 100 ≤ k) : bosunlaw17_Awake.f k = some true := by
  have h : bosunlaw17_Awake.f 100 = some true := by decide +kernel
  exact at_rounds (fun k => bosunlaw17_Awake.mono k) hk h
theorem of_loop (l : List S66) (hl : l.length ≤ 100000000) (a : Int) : ∀ (m i k : Nat) (acc : List S67), i + m = l.length → acc.length ≤ i → m < k →
    bosunlaw17_Of.l0 k l (l.length : Int) (i : Int) a acc = some (a, acc ++ (l.drop i).map toR)
  | 0, i, k, acc, h, ha, hk => by
    obtain ⟨k, rfl⟩ : ∃ k', k = k' + 1 := ⟨k - 1, by omega⟩
    rw [bosunlaw17_Of.l0, if_neg (by omega), List.drop_eq_nil_of_le (by omega)]
    simp
  | m + 1, i, k, acc, h, ha, hk => by
    obtain ⟨k, rfl⟩ : ∃ k', k = k' + 1 := ⟨k - 1, by omega⟩
    have hi : i < l.length := by omega
    have hii : (i : Int) < (l.length : Int) := by omega
    have hw : wrap64 ((i : Int) + 1) = ((i + 1 : Nat) : Int) := by rw [i64_id (by omega) (by omega)]; omega
    rw [bosunlaw17_Of.l0, if_pos hii, if_pos (by omega), if_pos hii, if_pos (by omega), hw, rd66 l i hi]
    refine (of_loop l hl a m (i + 1) k _ (by omega) (by rw [List.length_append, List.length_singleton]; omega) (by omega)).trans ?_
    rw [List.drop_eq_getElem_cons hi, List.map_cons, List.append_assoc]
    rfl
theorem of_is (l : List S66) (hl : l.length ≤ 100000000) (a : Int) (k : Nat) (hk : l.length < k) : bosunlaw17_Of.f k a l = some (a, l.map toR) := by
  rw [bosunlaw17_Of.f]
  exact of_loop l hl a l.length 0 k [] (by omega) (Nat.le_refl _) hk
/-- Small's answer; what is small has short texts. -/
theorem few_loop (l : List S66) (hl : l.length ≤ 9223372036854775807) (hg : ∀ p ∈ l, G66 p) : ∀ (m i n k : Nat), i + m = l.length → n ≤ 20000 → m < k →
    ∃ r, bosunlaw17_Small.l0 k (n : Int) l (l.length : Int) (i : Int) = some r ∧ (r = true → n + m ≤ 20000 ∧ ∀ p ∈ l.drop i, Short 20000 p)
  | 0, i, n, k, h, hn, hk => by
    obtain ⟨k, rfl⟩ : ∃ k', k = k' + 1 := ⟨k - 1, by omega⟩
    refine ⟨true, ?_, fun _ => ⟨by omega, ?_⟩⟩
    · rw [bosunlaw17_Small.l0, if_neg (by omega)]
    · rw [List.drop_eq_nil_of_le (by omega)]
      exact fun p hp => by cases hp
  | m + 1, i, n, k, h, hn, hk => by
    obtain ⟨k, rfl⟩ : ∃ k', k = k' + 1 := ⟨k - 1, by omega⟩
    have hi : i < l.length := by omega
    have hii : (i : Int) < (l.length : Int) := by omega
    have hw : wrap64 ((i : Int) + 1) = ((i + 1 : Nat) : Int) := by rw [i64_id (by omega) (by omega)]; omega
    obtain ⟨g0, g1, g2, -⟩ := hg l[i] (List.getElem_mem hi)
    have e : wrap64 ((n : Int) + wrap64 (wrap64 (wrap64 (1 + (l[i].f0.size : Int)) + (l[i].f1.size : Int)) + (l[i].f2.size : Int))) = ((n + (1 + l[i].f0.size + l[i].f1.size + l[i].f2.size) : Nat) : Int) := by
      rw [i64_id (x := 1 + (l[i].f0.size : Int)) (by omega) (by omega), i64_id (x := 1 + (l[i].f0.size : Int) + (l[i].f1.size : Int)) (by omega) (by omega), i64_id (x := 1 + (l[i].f0.size : Int) + (l[i].f1.size : Int) + (l[i].f2.size : Int)) (by omega) (by omega), i64_id (by omega) (by omega)]
      omega
    rw [bosunlaw17_Small.l0, if_pos hii, if_pos (by omega), if_pos hii, rd66 l i hi, hw, e]
    by_cases hx : ((n + (1 + l[i].f0.size + l[i].f1.size + l[i].f2.size) : Nat) : Int) > 20000
    · rw [if_pos hx]
      exact ⟨false, rfl, fun h => by cases h⟩
    · rw [if_neg hx]
      obtain ⟨r, h1, h2⟩ := few_loop l hl hg m (i + 1) (n + (1 + l[i].f0.size + l[i].f1.size + l[i].f2.size)) k (by omega) (by omega) (by omega)
      refine ⟨r, h1, fun q => ?_⟩
      obtain ⟨q1, q2⟩ := h2 q
      refine ⟨by omega, fun p hp => ?_⟩
      rw [List.drop_eq_getElem_cons hi] at hp
      rcases List.mem_cons.1 hp with rfl | hp
      · exact ⟨by omega, by omega, by omega⟩
      · exact q2 p hp
theorem few_is (l : List S66) (a : Int) (hl : l.length ≤ 9223372036854775807) (hg : ∀ p ∈ l, G66 p) (k : Nat) (hk : l.length < k) :
    ∃ r, bosunlaw17_Small.f k a l = some r ∧ (r = true → l.length ≤ 20000 ∧ ∀ p ∈ l, Short 20000 p) := by
  obtain ⟨r, h1, h2⟩ := few_loop l hl hg l.length 0 0 k (by omega) (by omega) hk
  refine ⟨r, h1, fun q => ?_⟩
  have := h2 q
  rw [List.drop_zero] at this
  exact ⟨by omega, this.2⟩
theorem check_one {k1 k2 : Nat} {a : Int} {l : List S66} {c1 c2 : Int} (h1 : ckone_State_Check.f k1 a l = some c1) (h2 : ckone_State_Check.f k2 a l = some c2) : c1 = c2 := by
  rcases Nat.le_total k1 k2 with h | h
  · have := at_rounds (fun k => ckone_State_Check.mono a l k) h h1
    rw [h2] at this
    exact (Option.some.inj this).symm
  · have := at_rounds (fun k => ckone_State_Check.mono a l k) h h2
    rw [h1] at this
    exact Option.some.inj this
theorem eqL_self : ∀ l : List S66, eqL l l = true
  | [] => rfl
  | p :: l => by rw [eqL, eqL_self l]; simp [eqP]
theorem ref_same_loop (l m : List S66) (a b : Int) (hl : l.length ≤ 100000000) (hm : l.length = m.length) : ∀ (n i k : Nat), i + n = l.length → n < k → bosunref17_Same.l0 k (i : Int) a (l.map toR) b (m.map toR) = some (eqL (l.drop i) (m.drop i))
  | 0, i, k, h, hk => by
    obtain ⟨k, rfl⟩ : ∃ k', k = k' + 1 := ⟨k - 1, by omega⟩
    rw [bosunref17_Same.l0, if_neg (by rw [List.length_map]; omega), List.drop_eq_nil_of_le (by omega), List.drop_eq_nil_of_le (by omega)]
    rfl
  | n + 1, i, k, h, hk => by
    obtain ⟨k, rfl⟩ : ∃ k', k = k' + 1 := ⟨k - 1, by omega⟩
    have hi : i < l.length := by omega
    have hj : i < m.length := by omega
    have hw : wrap64 ((i : Int) + 1) = ((i + 1 : Nat) : Int) := by rw [i64_id (by omega) (by omega)]; omega
    have ih := ref_same_loop l m a b hl hm n (i + 1) k (by omega) (by omega)
    rw [bosunref17_Same.l0, if_pos (by rw [List.length_map]; omega), if_pos (by omega), if_pos (by rw [List.length_map]; omega), rd67 l i hi, rd67 m i hj, hw, ih, List.drop_eq_getElem_cons hi, List.drop_eq_getElem_cons hj, eqL]
    generalize l[i] = p
    generalize m[i] = q
    generalize eqL (l.drop (i + 1)) (m.drop (i + 1)) = r
    show (if (!(p.f0.toList == q.f0.toList) || (!(p.f1.toList == q.f1.toList) || (!(p.f2.toList == q.f2.toList) || (!(p.f3 == q.f3))))) = true then some false else some r) = some (eqP p q && r)
    unfold eqP
    cases p.f0.toList == q.f0.toList <;> cases p.f1.toList == q.f1.toList <;> cases p.f2.toList == q.f2.toList <;> cases p.f3 == q.f3 <;> simp
theorem ref_same (l m : List S66) (a b : Int) (hl : l.length ≤ 100000000) (k : Nat) (hk : l.length + 1 < k) : bosunref17_Same.f k a (l.map toR) b (m.map toR) = some (a == b && eqL l m) := by
  obtain ⟨k, rfl⟩ : ∃ k', k = k' + 1 := ⟨k - 1, by omega⟩
  rw [bosunref17_Same.f]
  by_cases hab : a = b
  · rw [if_pos hab, beq_iff_eq.2 hab, Bool.true_and, bosunref17_Same.j0, List.length_map, List.length_map]
    by_cases hlm : l.length = m.length
    · have hne : ((l.length : Int) != (m.length : Int)) = false := by rw [hlm]; simp
      rw [hne, if_neg (show ¬ (false = true) by decide)]
      have := ref_same_loop l m a b hl hlm l.length 0 k (by omega) (by omega)
      rw [List.drop_zero, List.drop_zero] at this
      exact this
    · have hne : ((l.length : Int) != (m.length : Int)) = true := by simp; omega
      rw [hne, if_pos rfl]
      have hf : eqL l m = false := by
        cases h : eqL l m with
        | false => rfl
        | true => exact absurd (eqL_len _ _ h) hlm
      rw [hf]
  · rw [if_neg hab, beq_eq_false_iff_ne.2 hab, Bool.false_and, bosunref17_Same.j0, if_pos rfl]
theorem tail_is (k : Nat) (s : ByteArray) (hs : s.size ≤ 200) (a b : Int) (l m : List S66) (hl : l.length ≤ 20000) (hk : 100000 ≤ k) : bosunlaw17_CkoneCodes.j1 (k + 1) s false a l b m a (l.map toR) b (m.map toR) = some true := by
  rw [bosunlaw17_CkoneCodes.j1, if_neg (show ¬ (false = true) by decide), awake17 k (by omega), Option.bind_some, if_pos rfl, ckone_State_Same.f, Option.bind_some, ref_same l m a b (by omega) k (by omega), Option.bind_some, beq_self_eq_true, if_pos rfl, ckone_State_Same.f, Option.bind_some, eqL_self, beq_self_eq_true, Bool.and_self, if_pos rfl, file_is k s (by omega) (by omega), Option.bind_some, ref_file_is k s (by omega) (by omega), Option.bind_some, beq_self_eq_true]
theorem CkoneCodes : bosunlaw17_CkoneCodes.Pure := by
  rintro ⟨a, l⟩ ⟨b, m⟩ s ⟨ha, _, hl, hg⟩ ⟨hb, _, hm, hgm⟩ hs
  have ha' : 0 ≤ a ∧ a < 4294967296 := by
    simp [Lit.wf, IntKind.min, IntKind.max, IntKind.bits, IntKind.signed] at ha
    omega
  obtain ⟨K, hK⟩ : ∃ K, K = l.length + m.length + 300000 := ⟨_, rfl⟩
  refine ⟨K + 2, ?_⟩
  show bosunlaw17_CkoneCodes.f (K + 2) a l b m s = some true
  have long : ∀ x, x = true → bosunlaw17_CkoneCodes.j0 (K + 2) s x a l b m = some true := by
    intro x hx
    rw [bosunlaw17_CkoneCodes.j0, if_pos hx, awake17 _ (by omega)]
    rfl
  obtain ⟨r, h1, h2⟩ := few_is l a hl hg (K + 2) (by omega)
  rw [bosunlaw17_CkoneCodes.f, h1, Option.bind_some]
  cases r with
  | false =>
    rw [if_neg (show ¬ (false = true) by decide)]
    exact long _ rfl
  | true =>
    obtain ⟨hn, hsm⟩ := h2 rfl
    obtain ⟨r, g1, g2⟩ := few_is m b hm hgm (K + 2) (by omega)
    rw [if_pos rfl, g1, Option.bind_some]
    cases r with
    | false =>
      rw [if_neg (show ¬ (false = true) by decide)]
      exact long _ rfl
    | true =>
      obtain ⟨hn2, _⟩ := g2 rfl
      rw [if_pos rfl]
      by_cases hbz : (s.size : Int) > 200
      · exact long _ (decide_eq_true hbz)
      · have hB : ∀ p ∈ l, Byte p ∧ Short 20000 p := fun p hp => ⟨by
          have := (hg p hp).2.2.2
          simp [Lit.wf, IntKind.min, IntKind.max, IntKind.bits, IntKind.signed] at this
          exact ⟨by omega, by omega⟩, hsm p hp⟩
        obtain ⟨c, c1, c2⟩ := check_is l a 20000 (by omega) (by omega) hsm (K + 1) (by omega)
        have ht := tail_is K s (by omega) a b l m hn (by omega)
        rw [decide_eq_false hbz, bosunlaw17_CkoneCodes.j0, if_neg (show ¬ (false = true) by decide), of_is l (by omega) a (K + 1) (by omega), Option.bind_some, of_is m (by omega) b (K + 1) (by omega), Option.bind_some]
        simp only []
        rw [c2, Option.bind_some]
        rcases enc_is a l ha'.1 ha'.2 hB (K + 1) (by omega) c c1 with ⟨rfl, q1, q2⟩ | ⟨x, e, q1, q2, q3, q4⟩
        · rw [q2, Option.bind_some, c1, Option.bind_some, if_pos rfl]
          simp only [if_true]
          rw [bytes_is l a ha'.1 ha'.2 hn (fun p hp => ⟨q1 p hp, (hB p hp).1⟩) (K + 1) (by omega), Option.bind_some, if_pos rfl]
          exact ht
        · by_cases h0 : c = 0
          · refine absurd ?_ (q3 h0)
            rw [h0] at c1
            have := check_fits l a 20000 (by omega) (by omega) hsm (K + 1) (by omega) c1
            exact fun p hp => ⟨by have := this p hp; omega, by have := this p hp; omega, by have := this p hp; omega⟩
          · obtain ⟨rfl, rfl⟩ := q4 h0
            rw [q1, Option.bind_some, c1, Option.bind_some, if_pos rfl]
            simp only [if_true]
            rw [if_neg h0]
            have he : ((⟨#[]⟩ : ByteArray).toList != ([] : List UInt8)) = false := by rw [ByteArray.toList_eq]; rfl
            rw [he]
            exact ht
end Go.Proofs.YtpmbdcljphpcnaaDoor.Pure
