/- CkoneBack, the pure statement: what is encoded is decoded as it was; what is decoded is encoded as it was; for every input. -/
import Derived.Test.YtpmbdcljphpcnaaDoorCkBack
import Derived.Test.YtpmbdcljphpcnaaDoorGCkCkoneBackS
namespace Go.Proofs.YtpmbdcljphpcnaaDoor.Pure
open Go.RowKit Go.Proofs.YtpmbdcljphpcnaaDoor.GCk Go.Proofs.YtpmbdcljphpcnaaDoorW.PrintWords Go.Proofs.YtpmbdcljphpcnaaDoorW.PrintLast Go.Proofs.YtpmbdcljphpcnaaDoorW.PrintMore

theorem awake17 (k : Nat) (hk : 100 ≤ k) : bosunlaw17_Awake.f k = some true := by
  have h : bosunlaw17_Awake.f 100 = some true := by decide +kernel
  exact at_rounds (fun k => bosunlaw17_Awake.mono k) hk h
/-- A pod, as the document has it. -/
def toR (p : S66) : S67 := ⟨p.f0, p.f1, p.f2, p.f3⟩
theorem of_loop (l : List S66) (hl : l.length ≤ 100000000) (a : Int) : ∀ (m i k : Nat) (acc : List S67), i + m = l.length → acc.length ≤ i → m < k →
    bosunlaw17_Of.l0 k l (l.length : Int) (i : Int) a acc = some (a, acc ++ (l.drop i).map toR)
  | 0, i, k, acc, h, ha, hk => by
    obtain ⟨k, rfl⟩ : ∃ k', k = k' + 1 := ⟨k - 1, by omega⟩
    rw [bosunlaw17_Of.l0, if_neg (by omega), List.drop_eq_nil_of_le (by omega)]
    simp
  | m + 1, i, k, acc, h, ha, hk => by
    obtain ⟨k, rfl⟩ : ∃ k', k = k' + 1 := ⟨k - 1, by omega⟩
    have hi : i < l.length := by omega
    have hii : (i : Int) < (l.length : Int) := by omega
    have hw : wrap64 ((i : Int) + 1) = ((i + 1 : Nat) : Int) := by rw [i64_id (by omega) (by omega)]; omega
    rw [bosunlaw17_Of.l0, if_pos hii, if_pos (by omega), if_pos hii, if_pos (by omega), hw, rd66 l i hi]
    refine (of_loop l hl a m (i + 1) k _ (by omega) (by rw [List.length_append, List.length_singleton]; omega) (by omega)).trans ?_
    rw [List.drop_eq_getElem_cons hi, List.map_cons, List.append_assoc]
    rfl
theorem of_is (l : List S66) (hl : l.length ≤ 100000000) (a : Int) (k : Nat) (hk : l.length < k) : bosunlaw17_Of.f k a l = some (a, l.map toR) := by
  rw [bosunlaw17_Of.f]
  exact of_loop l hl a l.length 0 k [] (by omega) (Nat.le_refl _) hk
theorem same_loop (l : List S67) (hl : l.length ≤ 100000000) (a : Int) : ∀ (m i k : Nat), i + m = l.length → m < k → bosunref17_Same.l0 k (i : Int) a l a l = some true
  | 0, i, k, h, hk => by
    obtain ⟨k, rfl⟩ : ∃ k', k = k' + 1 := ⟨k - 1, by omega⟩
    rw [bosunref17_Same.l0, if_neg (by omega)]
  | m + 1, i, k, h, hk => by
    obtain ⟨k, rfl⟩ : ∃ k', k = k' + 1 := ⟨k - 1, by omega⟩
    have hii : (i : Int) < (l.length : Int) := by omega
    have hw : wrap64 ((i : Int) + 1) = ((i + 1 : Nat) : Int) := by rw [i64_id (by omega) (by omega)]; omega
    rw [bosunref17_Same.l0, if_pos hii, if_pos (by omega), if_pos hii, hw]
    rw [if_neg (by simp)]
    exact same_loop l hl a m (i + 1) k (by omega) (by omega)
theorem same_is (l : List S67) (hl : l.length ≤ 100000000) (a : Int) (k : Nat) (hk : l.length + 1 < k) : bosunref17_Same.f k a l a l = some true := by
  obtain ⟨k, rfl⟩ : ∃ k', k = k' + 1 := ⟨k - 1, by omega⟩
  have hne : ((l.length : Int) != (l.length : Int)) = false := by simp
  rw [bosunref17_Same.f, if_pos rfl, hne, bosunref17_Same.j0, if_neg (show ¬ (false = true) by decide)]
  exact same_loop l hl a l.length 0 k (by omega) (by omega)
/-- Small's answer; what is small has short texts. -/
theorem few_loop (l : List S66) (hl : l.length ≤ 9223372036854775807) (hg : ∀ p ∈ l, G66 p) : ∀ (m i n k : Nat), i + m = l.length → n ≤ 20000 → m < k →
    ∃ r, bosunlaw17_Small.l0 k (n : Int) l (l.length : Int) (i : Int) = some r ∧ (r = true → n + m ≤ 20000 ∧ ∀ p ∈ l.drop i, Short 20000 p)
  | 0, i, n, k, h, hn, hk => by
    obtain ⟨k, rfl⟩ : ∃ k', k = k' + 1 := ⟨k - 1, by omega⟩
    refine ⟨true, ?_, fun _ => ⟨by omega, ?_⟩⟩
    · rw [bosunlaw17_Small.l0, if_neg (by omega)]
    · rw [List.drop_eq_nil_of_le (by omega)]
      exact fun p hp => by cases hp
  | m + 1, i, n, k, h, hn, hk => by
    obtain ⟨k, rfl⟩ : ∃ k', k = k' + 1 := ⟨k - 1, by omega⟩
    have hi : i < l.length := by omega
    have hii : (i : Int) < (l.length : Int) := by omega
    have hw : wrap64 ((i : Int) + 1) = ((i + 1 : Nat) : Int) := by rw [i64_id (by omega) (by omega)]; omega
    obtain ⟨g0, g1, g2, -⟩ := hg l[i] (List.getElem_mem hi)
    have e : wrap64 ((n : Int) + wrap64 (wrap64 (wrap64 (1 + (l[i].f0.size : Int)) + (l[i].f1.size : Int)) + (l[i].f2.size : Int))) = ((n + (1 + l[i].f0.size + l[i].f1.size + l[i].f2.size) : Nat) : Int) := by
      rw [i64_id (x := 1 + (l[i].f0.size : Int)) (by omega) (by omega), i64_id (x := 1 + (l[i].f0.size : Int) + (l[i].f1.size : Int)) (by omega) (by omega), i64_id (x := 1 + (l[i].f0.size : Int) + (l[i].f1.size : Int) + (l[i].f2.size : Int)) (by omega) (by omega), i64_id (by omega) (by omega)]
      omega
    rw [bosunlaw17_Small.l0, if_pos hii, if_pos (by omega), if_pos hii, rd66 l i hi, hw, e]
    by_cases hx : ((n + (1 + l[i].f0.size + l[i].f1.size + l[i].f2.size) : Nat) : Int) > 20000
    · rw [if_pos hx]
      exact ⟨false, rfl, fun h => by cases h⟩
    · rw [if_neg hx]
      obtain ⟨r, h1, h2⟩ := few_loop l hl hg m (i + 1) (n + (1 + l[i].f0.size + l[i].f1.size + l[i].f2.size)) k (by omega) (by omega) (by omega)
      refine ⟨r, h1, fun q => ?_⟩
      obtain ⟨q1, q2⟩ := h2 q
      refine ⟨by omega, fun p hp => ?_⟩
      rw [List.drop_eq_getElem_cons hi] at hp
      rcases List.mem_cons.1 hp with rfl | hp
      · exact ⟨by omega, by omega, by omega⟩
      · exact q2 p hp
theorem few_is (l : List S66) (a : Int) (hl : l.length ≤ 9223372036854775807) (hg : ∀ p ∈ l, G66 p) (k : Nat) (hk : l.length < k) :
    ∃ r, bosunlaw17_Small.f k a l = some r ∧ (r = true → l.length ≤ 20000 ∧ ∀ p ∈ l, Short 20000 p) := by
  obtain ⟨r, h1, h2⟩ := few_loop l hl hg l.length 0 0 k (by omega) (by omega) hk
  refine ⟨r, h1, fun q => ?_⟩
  have := h2 q
  rw [List.drop_zero] at this
  exact ⟨by omega, this.2⟩
theorem check_one {k1 k2 : Nat} {a : Int} {l : List S66} {c1 c2 : Int} (h1 : ckone_State_Check.f k1 a l = some c1) (h2 : ckone_State_Check.f k2 a l = some c2) : c1 = c2 := by
  rcases Nat.le_total k1 k2 with h | h
  · have := at_rounds (fun k => ckone_State_Check.mono a l k) h h1
    rw [h2] at this
    exact (Option.some.inj this).symm
  · have := at_rounds (fun k => ckone_State_Check.mono a l k) h h2
    rw [h1] at this
    exact Option.some.inj this
/-- The second half: what is decoded is encoded as it was. -/
theorem half (k : Nat) (hk : 200000 ≤ k) (b : ByteArray) (hb : b.size ≤ 20000) : bosunlaw17_CkoneBack.j1 (k + 1) b = some true := by
  obtain ⟨r, hr⟩ := dec_some b hb k (by omega)
  obtain ⟨h1, h2⟩ := dec_inv b k (by omega) r hr
  rw [bosunlaw17_CkoneBack.j1, hr, Option.bind_some]
  by_cases h0 : r.2.2 = 0
  · obtain ⟨g1, g2, g3, g4, g5, k', g6⟩ := h1 h0
    obtain ⟨c, hc⟩ := check_some r.2.1 r.1 20000 (by omega) (by omega) (fun p hp => by
      obtain ⟨⟨u1, u2, u3⟩, _⟩ := g5 p hp
      exact ⟨by omega, by omega, by omega⟩) k (by omega)
    obtain rfl := check_one g6 hc
    rw [if_pos h0]
    rcases enc_is r.1 r.2.1 g2 g3 (fun p hp => by
      obtain ⟨⟨u1, u2, u3⟩, u4⟩ := g5 p hp
      exact ⟨u4, by omega, by omega, by omega⟩) k (by omega) 0 hc with ⟨_, _, q⟩ | ⟨x, e, _, _, q, _⟩
    · rw [q, Option.bind_some, awake17 k (by omega), Option.bind_some, if_pos rfl]
      simp only [if_true]
      rw [← g1, beq_self_eq_true]
    · exact absurd (fun p hp => (g5 p hp).1) (q rfl)
  · obtain ⟨q1, q2⟩ := h2 h0
    rw [if_neg h0, awake17 k (by omega), Option.bind_some, if_pos rfl, if_pos q1, q2]
    rfl
theorem CkoneBack : bosunlaw17_CkoneBack.Pure := by
  rintro ⟨a, l⟩ b ⟨ha, _, hl, hg⟩ hb
  have ha' : 0 ≤ a ∧ a < 4294967296 := by
    simp [Lit.wf, IntKind.min, IntKind.max, IntKind.bits, IntKind.signed] at ha
    omega
  refine ⟨l.length + 300003, ?_⟩
  show bosunlaw17_CkoneBack.f (l.length + 300003) a l b = some true
  obtain ⟨r, h1, h2⟩ := few_is l a hl hg (l.length + 300003) (by omega)
  rw [bosunlaw17_CkoneBack.f, h1, Option.bind_some]
  have long : ∀ x, x = true → bosunlaw17_CkoneBack.j0 (l.length + 300003) b x a l = some true := by
    intro x hx
    rw [bosunlaw17_CkoneBack.j0, if_pos hx, awake17 _ (by omega)]
    rfl
  cases r with
  | false =>
    rw [if_neg (show ¬ (false = true) by decide)]
    exact long _ rfl
  | true =>
    obtain ⟨hn, hs⟩ := h2 rfl
    rw [if_pos rfl]
    by_cases hbz : (b.size : Int) > 20000
    · exact long _ (decide_eq_true hbz)
    · rw [decide_eq_false hbz, bosunlaw17_CkoneBack.j0, if_neg (show ¬ (false = true) by decide)]
      have hh := half (l.length + 300001) (by omega) b (by omega)
      obtain ⟨c, hc⟩ := check_some l a 20000 (by omega) (by omega) hs 200000 (by omega)
      have hcK : ∀ k', 200000 ≤ k' → ckone_State_Check.f k' a l = some c := fun k' hk' => at_rounds (fun k => ckone_State_Check.mono a l k) hk' hc
      have hB : ∀ p ∈ l, Byte p ∧ Short 20000 p := fun p hp => ⟨by
        have := (hg p hp).2.2.2
        simp [Lit.wf, IntKind.min, IntKind.max, IntKind.bits, IntKind.signed] at this
        exact ⟨by omega, by omega⟩, hs p hp⟩
      rcases enc_is a l ha'.1 ha'.2 hB (l.length + 300002) (by omega) c (hcK _ (by omega)) with ⟨rfl, q1, q2⟩ | ⟨x, e, q1, q2, _⟩
      · have hd := dec_enc a l ha'.1 ha'.2 (check_len _ a l hc) (fun p hp => ⟨q1 p hp, (hB p hp).1⟩) (l.length + 300002) (by omega) (fun k' hk' => hcK k' (by omega))
        have ho := of_is l (by omega) a (l.length + 300002) (by omega)
        have hsm := same_is (l.map toR) (by rw [List.length_map]; omega) a (l.length + 300002) (by rw [List.length_map]; omega)
        rw [q2, Option.bind_some]
        simp only [if_true]
        rw [hd, Option.bind_some]
        simp only [if_true]
        rw [ho, Option.bind_some, Option.bind_some]
        simp only []
        rw [hsm, Option.bind_some, if_pos rfl]
        exact hh
      · rw [q1, Option.bind_some]
        simp only []
        rw [if_neg q2]
        exact hh
end Go.Proofs.YtpmbdcljphpcnaaDoor.Pure
