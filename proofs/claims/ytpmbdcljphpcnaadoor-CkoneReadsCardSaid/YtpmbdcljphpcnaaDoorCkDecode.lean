/- ckone's Decode: the program's and the document's are one. Plain lemmas. No conditions beside those stated. -/
import Derived.Test.YtpmbdcljphpcnaaDoorCkCheck
import Derived.Test.YtpmbdcljphpcnaaDoorCkTake
import Derived.Test.YtpmbdcljphpcnaaDoorGCkx16
namespace Go.Proofs.YtpmbdcljphpcnaaDoor.Pure
open Go.RowKit Go.Proofs.YtpmbdcljphpcnaaDoor.GCk Go.Proofs.YtpmbdcljphpcnaaDoorW.PrintWords Go.Proofs.YtpmbdcljphpcnaaDoorW.PrintLast Go.Proofs.YtpmbdcljphpcnaaDoorW.PrintMore

theorem ext_size (s : ByteArray) (a b : Nat) : (s.extract a b).size ≤ s.size := by rw [ByteArray.size_extract]; omega
theorem bytes_size (s : ByteArray) (e n : Int) (t : ByteArray) (ok : Bool) (s' : ByteArray) (e' : Int) (h : pack_Taker_bytes.f s e n = some (t, ok, s', e')) : t.size ≤ s.size ∧ s'.size ≤ s.size := by
  unfold pack_Taker_bytes.f at h
  repeat' split at h
  all_goals first | (cases h; done) | skip
  all_goals simp only [Option.some.injEq, Prod.mk.injEq] at h
  all_goals obtain ⟨rfl, _, rfl, _⟩ := h
  · exact ⟨Nat.zero_le _, Nat.le_refl _⟩
  · exact ⟨ext_size _ _ _, ext_size _ _ _⟩
  · exact ⟨Nat.zero_le _, Nat.le_refl _⟩
theorem takeS_size (s : ByteArray) (e n : Int) : (takeS s e n).2.1.size ≤ s.size := by
  unfold takeS
  repeat' split
  all_goals first | exact Nat.le_refl _ | exact ext_size _ _ _
theorem text_size (s : ByteArray) (e : Int) (t s' : ByteArray) (e' : Int) (h : pack_Taker_Text.f 20 s e = some (t, s', e')) : t.size ≤ s.size ∧ s'.size ≤ s.size := by
  rw [pack_Taker_Text.f, take_is, Option.bind_some] at h
  have h0 := takeS_size s e 2
  split at h
  · rw [show pack_Taker_back.f (takeS s e 2).2.1 (takeS s e 2).2.2 s 2 = some (s, 2) from rfl, Option.bind_some] at h
    obtain ⟨⟨t1, ok, s1, e1⟩, hb, h⟩ := Option.bind_eq_some_iff.1 h
    have hz := bytes_size _ _ _ _ _ _ _ hb
    split at h
    · injection h with h; injection h with h1 h2; injection h2 with h2 h3; subst h1 h2 h3; exact hz
    · injection h with h; injection h with h1 h2; injection h2 with h2 h3; subst h1 h2 h3; exact ⟨hz.1, Nat.le_refl _⟩
  · obtain ⟨⟨t1, ok, s1, e1⟩, hb, h⟩ := Option.bind_eq_some_iff.1 h
    have hz := bytes_size _ _ _ _ _ _ _ hb
    split at h
    · injection h with h; injection h with h1 h2; injection h2 with h2 h3; subst h1 h2 h3; exact ⟨Nat.le_trans hz.1 h0, Nat.le_trans hz.2 h0⟩
    · injection h with h; injection h with h1 h2; injection h2 with h2 h3; subst h1 h2 h3; exact ⟨Nat.le_trans hz.1 h0, Nat.le_refl _⟩
/-- Both end alike. -/
theorem end_is (s : ByteArray) (e a : Int) (acc : List S66) (hacc : ∀ p ∈ acc, Short 20000 p) (hl : acc.length ≤ 2000) (k k' : Nat) (hk : 48000 < k) (hk' : 48000 < k') :
    ∃ r, ckone_Decode.j1 k s e a acc = some r ∧ (r.2.1 = [] ∨ r.2.1 = acc) ∧
      ((bosunref02_End.f s e).bind fun t307 => (if t307 = 0 then ((bosunref17_Check.f k' a (acc.map toR)).bind fun t308 => (if t308 = 0 then (some (a, acc.map toR, (0 : Int))) else (some (0, ([] : List (S67)), t308)))) else (some (0, ([] : List (S67)), t307)))) = some (r.1, r.2.1.map toR, r.2.2) := by
  obtain ⟨k, rfl⟩ : ∃ j, k = j + 1 := ⟨k - 1, by omega⟩
  obtain ⟨c, h1, h2⟩ := end_both s e
  rw [ckone_Decode.j1, h1, h2, Option.bind_some, Option.bind_some]
  by_cases hc : c = 0
  · obtain ⟨r0, c1, _⟩ := check_is acc a 20000 (by omega) (by omega) hacc k (by omega)
    obtain ⟨r1, d1, d2⟩ := check_is acc a 20000 (by omega) (by omega) hacc k' (by omega)
    have hr : r0 = r1 := by
      rcases Nat.le_total k k' with hkk | hkk
      · have := at_rounds (fun k => ckone_State_Check.mono a acc k) hkk c1
        rw [d1] at this
        exact (Option.some.inj this).symm
      · have := at_rounds (fun k => ckone_State_Check.mono a acc k) hkk d1
        rw [c1] at this
        exact Option.some.inj this
    subst hr
    rw [if_pos hc, if_pos hc, c1, d2, Option.bind_some, Option.bind_some]
    by_cases h0 : r0 = 0
    · exact ⟨(a, acc, 0), by rw [if_pos h0], .inr rfl, by rw [if_pos h0]⟩
    · exact ⟨(0, [], r0), by rw [if_neg h0], .inl rfl, by rw [if_neg h0]; rfl⟩
  · exact ⟨(0, [], c), by rw [if_neg hc], .inl rfl, by rw [if_neg hc]; rfl⟩
theorem dec_loop (n : Int) (n0 : 0 ≤ n) (hn : n ≤ 1024) (a : Int) : ∀ (d i k k' : Nat) (s : ByteArray) (e : Int) (acc : List S66), (i : Int) + d = n → s.size ≤ 20000 → (∀ p ∈ acc, Short 20000 p) → acc.length ≤ i → 50000 + d < k → 50000 + 2 * d < k' →
    ∃ r, ckone_Decode.l0 k n (i : Int) s e a acc = some r ∧ r.2.1.length ≤ 2000 ∧ bosunref17_Decode.l0 k' n (i : Int) s e a (acc.map toR) = some (r.1, r.2.1.map toR, r.2.2) := by
  have wn : wrap64 n = n := i64_id (by omega) (by omega)
  intro d
  induction d with
  | zero =>
    intro i k k' s e acc h hs hacc hl hk hk'
    obtain ⟨k, rfl⟩ : ∃ j, k = j + 1 := ⟨k - 1, by omega⟩
    obtain ⟨k', rfl⟩ : ∃ j, k' = j + 1 := ⟨k' - 1, by omega⟩
    obtain ⟨k', rfl⟩ : ∃ j, k' = j + 1 := ⟨k' - 1, by omega⟩
    obtain ⟨r, h1, h2, h3⟩ := end_is s e a acc hacc (by omega) k k' (by omega) (by omega)
    refine ⟨r, ?_, ?_, ?_⟩
    · rw [ckone_Decode.l0, if_neg (by omega)]; exact h1
    · rcases h2 with h2 | h2 <;> rw [h2]
      · exact Nat.zero_le _
      · omega
    · rw [bosunref17_Decode.l0, wn, if_neg (by omega), bosunref17_Decode.j1, if_neg (show ¬ (false = true) by decide)]; exact h3
  | succ d ih =>
    intro i k k' s e acc h hs hacc hl hk hk'
    obtain ⟨k, rfl⟩ : ∃ j, k = j + 1 := ⟨k - 1, by omega⟩
    obtain ⟨k', rfl⟩ : ∃ j, k' = j + 1 := ⟨k' - 1, by omega⟩
    obtain ⟨k', rfl⟩ : ∃ j, k' = j + 1 := ⟨k' - 1, by omega⟩
    have hw : wrap64 ((i : Int) + 1) = ((i + 1 : Nat) : Int) := by rw [i64_id (by omega) (by omega)]; omega
    have hin : (i : Int) < n := by omega
    rw [ckone_Decode.l0, if_pos hin, bosunref17_Decode.l0, wn, if_pos hin, bosunref17_Decode.j1]
    by_cases he : e = 0
    · have he' : (e == 0) = true := beq_iff_eq.2 he
      rw [if_pos he, he', if_pos rfl]
      obtain ⟨t1, s1, e1, p1, q1⟩ := text_both s e
      obtain ⟨t2, s2, e2, p2, q2⟩ := text_both s1 e1
      obtain ⟨t3, s3, e3, p3, q3⟩ := text_both s2 e2
      have z1 := text_size _ _ _ _ _ p1
      have z2 := text_size _ _ _ _ _ p2
      have z3 := text_size _ _ _ _ _ p3
      have p4 := take_is s3 e3 1
      have q4 := rtake_is s3 e3 1
      have z4 := takeS_size s3 e3 1
      rw [more (g := fun k => pack_Taker_Text.f k s e) (fun k => pack_Taker_Text.mono s e k) p1 k (by omega), Option.bind_some]
      rw [more (g := fun k => pack_Taker_Text.f k s1 e1) (fun k => pack_Taker_Text.mono s1 e1 k) p2 k (by omega), Option.bind_some]
      rw [more (g := fun k => pack_Taker_Text.f k s2 e2) (fun k => pack_Taker_Text.mono s2 e2 k) p3 k (by omega), Option.bind_some]
      rw [more (g := fun k => pack_Taker_Take.f k s3 e3 1) (fun k => pack_Taker_Take.mono s3 e3 1 k) p4 k (by omega), Option.bind_some]
      rw [more (g := fun k => bosunref02_TakeText.f k s e) (fun k => bosunref02_TakeText.mono s e k) q1 k' (by omega), Option.bind_some]
      rw [more (g := fun k => bosunref02_TakeText.f k s1 e1) (fun k => bosunref02_TakeText.mono s1 e1 k) q2 k' (by omega), Option.bind_some]
      rw [more (g := fun k => bosunref02_TakeText.f k s2 e2) (fun k => bosunref02_TakeText.mono s2 e2 k) q3 k' (by omega), Option.bind_some]
      rw [more (g := fun k => bosunref02_Take.f k s3 e3 1) (fun k => bosunref02_Take.mono s3 e3 1 k) q4 k' (by omega), Option.bind_some]
      rw [if_pos (by omega), if_pos (by rw [List.length_map]; omega), hw]
      obtain ⟨r, h1, h2, h3⟩ := ih (i + 1) k k' (takeS s3 e3 1).2.1 (takeS s3 e3 1).2.2 (acc ++ [⟨t1, t2, t3, (takeS s3 e3 1).1 % 256⟩]) (by omega) (by omega) (fun p hp => by
        rcases List.mem_append.1 hp with hp | hp
        · exact hacc p hp
        · rw [List.mem_singleton.1 hp]
          exact ⟨by show t1.size ≤ _; omega, by show t2.size ≤ _; omega, by show t3.size ≤ _; omega⟩) (by rw [List.length_append, List.length_singleton]; omega) (by omega) (by omega)
      refine ⟨r, h1, h2, ?_⟩
      rw [List.map_append] at h3
      exact h3
    · have he' : (e == 0) = false := beq_eq_false_iff_ne.2 he
      rw [if_neg he, he', if_neg (show ¬ (false = true) by decide)]
      obtain ⟨r, h1, h2, h3⟩ := end_is s e a acc hacc (by omega) k k' (by omega) (by omega)
      refine ⟨r, h1, ?_, h3⟩
      rcases h2 with h2 | h2 <;> rw [h2]
      · exact Nat.zero_le _
      · omega
theorem dec_is (b : ByteArray) (hb : b.size ≤ 20000) (k : Nat) (hk : 60000 < k) : ∃ r, ckone_Decode.f k b = some r ∧ r.2.1.length ≤ 2000 ∧ bosunref17_Decode.f k b = some (r.1, r.2.1.map toR, r.2.2) := by
  have p1 := take_is b 0 4
  have q1 := rtake_is b 0 4
  have z1 := takeS_size b 0 4
  obtain ⟨v, s', e', hv, v0, v1, _, _⟩ := take_cases (takeS b 0 4).2.1 (takeS b 0 4).2.2 2 (.inr rfl)
  have p2 := take_is (takeS b 0 4).2.1 (takeS b 0 4).2.2 2
  have q2 := rtake_is (takeS b 0 4).2.1 (takeS b 0 4).2.2 2
  have z2 := takeS_size (takeS b 0 4).2.1 (takeS b 0 4).2.2 2
  rw [hv] at p2 q2 z2
  have wv : wrap64 v = v := i64_id (by omega) (by omega)
  rw [ckone_Decode.f, bosunref17_Decode.f]
  rw [more (g := fun k => pack_Taker_Take.f k b 0 4) (fun k => pack_Taker_Take.mono b 0 4 k) p1 k (by omega), Option.bind_some]
  rw [more (g := fun k => bosunref02_Take.f k b 0 4) (fun k => bosunref02_Take.mono b 0 4 k) q1 k (by omega), Option.bind_some]
  rw [more (g := fun k => pack_Taker_Take.f k (takeS b 0 4).2.1 (takeS b 0 4).2.2 2) (fun k => pack_Taker_Take.mono _ _ _ k) p2 k (by omega), Option.bind_some]
  rw [more (g := fun k => bosunref02_Take.f k (takeS b 0 4).2.1 (takeS b 0 4).2.2 2) (fun k => bosunref02_Take.mono _ _ _ k) q2 k (by omega), Option.bind_some]
  simp only [wv]
  by_cases h : v > 1024
  · exact ⟨(0, [], 18), by rw [if_pos h], Nat.zero_le _, by rw [if_pos h]; rfl⟩
  · rw [if_neg h, if_neg h]
    exact dec_loop v v0 (by omega) _ v.toNat 0 k k s' e' [] (by omega) (by have : s'.size ≤ _ := z2; omega) (fun p hp => by cases hp) (Nat.le_refl _) (by omega) (by omega)
end Go.Proofs.YtpmbdcljphpcnaaDoor.Pure
