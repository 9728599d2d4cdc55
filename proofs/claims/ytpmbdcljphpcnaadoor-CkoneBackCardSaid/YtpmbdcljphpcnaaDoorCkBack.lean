/- ckone's Encode and Decode, the one behind the other. Plain lemmas. No conditions beside those stated. -/
import Derived.Test.YtpmbdcljphpcnaaDoorCkEnc
import Derived.Test.YtpmbdcljphpcnaaDoorGCkx12
namespace Go.Proofs.YtpmbdcljphpcnaaDoor.Pure
open Go.RowKit Go.Proofs.YtpmbdcljphpcnaaDoor.GCk Go.Proofs.YtpmbdcljphpcnaaDoorW.PrintWords Go.Proofs.YtpmbdcljphpcnaaDoorW.PrintLast Go.Proofs.YtpmbdcljphpcnaaDoorW.PrintMore

theorem empty_of {s : ByteArray} (h : s.toList = ([] : List UInt8)) : s = ⟨#[]⟩ := by
  rw [ByteArray.toList_eq] at h
  apply ByteArray.ext
  exact Array.ext' h
theorem j1_ok (k : Nat) (s : ByteArray) (e a : Int) (acc : List S66) (r : Int × List S66 × Int) (h : ckone_Decode.j1 (k + 1) s e a acc = some r) :
    (r.2.2 = 0 → e = 0 ∧ s = ⟨#[]⟩ ∧ r = (a, acc, 0) ∧ ckone_State_Check.f k a acc = some 0) ∧ (r.2.2 ≠ 0 → r.1 = 0 ∧ r.2.1 = []) := by
  rw [ckone_Decode.j1] at h
  unfold pack_Taker_End.f at h
  by_cases he : e = 0
  · rw [if_pos he] at h
    by_cases hs : s.toList = ([] : List UInt8)
    · rw [if_pos hs, Option.bind_some] at h
      replace h : (ckone_State_Check.f k a acc).bind (fun t => if t = 0 then some (a, acc, 0) else some (0, [], t)) = some r := by
        simpa only [he, if_true] using h
      obtain ⟨c, hc, h⟩ := Option.bind_eq_some_iff.1 h
      by_cases h0 : c = 0
      · rw [if_pos h0] at h
        obtain rfl := Option.some.inj h
        exact ⟨fun _ => ⟨he, empty_of hs, rfl, by rw [hc, h0]⟩, fun q => absurd rfl q⟩
      · rw [if_neg h0] at h
        obtain rfl := Option.some.inj h
        exact ⟨fun q => absurd q h0, fun _ => ⟨rfl, rfl⟩⟩
    · rw [if_neg hs, Option.bind_some] at h
      have q : r = (0, [], r.2.2) ∧ r.2.2 ≠ 0 := by
        replace h : some ((0 : Int), ([] : List S66), (6 : Int)) = some r := h
        obtain rfl := Option.some.inj h
        exact ⟨rfl, by show (6 : Int) ≠ 0; decide⟩
      exact ⟨fun h => absurd h q.2, fun _ => by rw [q.1]; exact ⟨rfl, rfl⟩⟩
  · rw [if_neg he, Option.bind_some] at h
    have q : r = (0, [], r.2.2) ∧ r.2.2 ≠ 0 := by
      rw [if_neg he] at h
      obtain rfl := Option.some.inj h
      exact ⟨rfl, he⟩
    exact ⟨fun h => absurd h q.2, fun _ => by rw [q.1]; exact ⟨rfl, rfl⟩⟩
theorem l0_inv (n : Int) (hn : n ≤ 1024) : ∀ (d i k : Nat) (s : ByteArray) (e a : Int) (acc : List S66) (r : Int × List S66 × Int), (i : Int) + d = n → acc.length ≤ i → d + 30 < k → ckone_Decode.l0 k n (i : Int) s e a acc = some r →
    (r.2.2 = 0 → ∃ l, r = (a, acc ++ l, 0) ∧ s = podsB l ∧ l.length = d ∧ e = 0 ∧ (∀ p ∈ l, Fits p ∧ Byte p) ∧ ∃ k', ckone_State_Check.f k' a (acc ++ l) = some 0) ∧ (r.2.2 ≠ 0 → r.1 = 0 ∧ r.2.1 = []) := by
  intro d
  induction d with
  | zero =>
    intro i k s e a acc r h hl hk hr
    obtain ⟨k, rfl⟩ : ∃ j, k = j + 1 := ⟨k - 1, by omega⟩
    obtain ⟨k, rfl⟩ : ∃ j, k = j + 1 := ⟨k - 1, by omega⟩
    rw [ckone_Decode.l0, if_neg (by omega)] at hr
    obtain ⟨h1, h2⟩ := j1_ok _ _ _ _ _ _ hr
    refine ⟨fun q => ?_, h2⟩
    obtain ⟨g1, g2, g3, g4⟩ := h1 q
    exact ⟨[], by rw [List.append_nil]; exact g3, g2, rfl, g1, (fun p hp => by cases hp), k, by rw [List.append_nil]; exact g4⟩
  | succ d ih =>
    intro i k s e a acc r h hl hk hr
    obtain ⟨k, rfl⟩ : ∃ j, k = j + 1 := ⟨k - 1, by omega⟩
    obtain ⟨k, rfl⟩ : ∃ j, k = j + 1 := ⟨k - 1, by omega⟩
    have hw : wrap64 ((i : Int) + 1) = ((i + 1 : Nat) : Int) := by rw [i64_id (by omega) (by omega)]; omega
    have hin : (i : Int) < n := by omega
    rw [ckone_Decode.l0, if_pos hin] at hr
    by_cases he : e = 0
    · rw [if_pos he] at hr
      obtain ⟨t1, s1, e1, p1⟩ := text_some s e
      obtain ⟨t2, s2, e2, p2⟩ := text_some s1 e1
      obtain ⟨t3, s3, e3, p3⟩ := text_some s2 e2
      have p4 := take_is s3 e3 1
      rw [more (g := fun k => pack_Taker_Text.f k s e) (fun k => pack_Taker_Text.mono s e k) p1 (k + 1) (by omega), Option.bind_some] at hr
      rw [more (g := fun k => pack_Taker_Text.f k s1 e1) (fun k => pack_Taker_Text.mono s1 e1 k) p2 (k + 1) (by omega), Option.bind_some] at hr
      rw [more (g := fun k => pack_Taker_Text.f k s2 e2) (fun k => pack_Taker_Text.mono s2 e2 k) p3 (k + 1) (by omega), Option.bind_some] at hr
      rw [more (g := fun k => pack_Taker_Take.f k s3 e3 1) (fun k => pack_Taker_Take.mono s3 e3 1 k) p4 (k + 1) (by omega), Option.bind_some] at hr
      rw [if_pos (by omega), hw] at hr
      obtain ⟨h1, h2⟩ := ih (i + 1) (k + 1) _ _ a _ r (by omega) (by rw [List.length_append, List.length_singleton]; omega) (by omega) hr
      refine ⟨fun q => ?_, h2⟩
      obtain ⟨l, g1, g2, g3, g4, g5, k', g6⟩ := h1 q
      obtain ⟨u1, u2, u3, u4⟩ := take_inv 1 (by simp) s3 e3 (takeS s3 e3 1).1 (takeS s3 e3 1).2.1 (by rw [← g4]; rfl)
      generalize (takeS s3 e3 1).1 = v at *
      generalize (takeS s3 e3 1).2.1 = s4 at *
      subst u1
      obtain ⟨x3, y3, z3⟩ := text_inv _ _ _ _ p3
      subst x3
      obtain ⟨x2, y2, z2⟩ := text_inv _ _ _ _ p2
      subst x2
      obtain ⟨x1, y1, z1⟩ := text_inv _ _ _ _ p1
      have v0 : v % 256 = v := by omega
      rw [v0] at g1 g6
      refine ⟨⟨t1, t2, t3, v⟩ :: l, ?_, ?_, by rw [List.length_cons, g3], he, ?_, k', ?_⟩
      · rw [g1, List.append_assoc]; rfl
      · rw [y1, y2, y3, u2, g2, podsB, podB]; simp only [ByteArray.append_assoc]
      · intro p hp
        rcases List.mem_cons.1 hp with rfl | hp
        · exact ⟨⟨z1, z2, z3⟩, u3, by show v < 256; omega⟩
        · exact g5 p hp
      · rw [List.append_assoc] at g6; exact g6
    · rw [if_neg he] at hr
      obtain ⟨h1, h2⟩ := j1_ok _ _ _ _ _ _ hr
      exact ⟨fun q => absurd (h1 q).1 he, h2⟩
/-- What Decode's answer says of the bytes. -/
theorem dec_inv (b : ByteArray) (k : Nat) (hk : 2000 < k) (r : Int × List S66 × Int) (h : ckone_Decode.f k b = some r) :
    (r.2.2 = 0 → b = stateB r.1 r.2.1 ∧ 0 ≤ r.1 ∧ r.1 < 4294967296 ∧ r.2.1.length ≤ 1024 ∧ (∀ p ∈ r.2.1, Fits p ∧ Byte p) ∧ ∃ k', ckone_State_Check.f k' r.1 r.2.1 = some 0) ∧ (r.2.2 ≠ 0 → r.1 = 0 ∧ r.2.1 = []) := by
  have p1 := take_is b 0 4
  obtain ⟨v, s', e', hv, v0, v1, _, _⟩ := take_cases (takeS b 0 4).2.1 (takeS b 0 4).2.2 2 (.inr rfl)
  have p2 := take_is (takeS b 0 4).2.1 (takeS b 0 4).2.2 2
  rw [hv] at p2
  have wv : wrap64 v = v := i64_id (by omega) (by omega)
  rw [ckone_Decode.f] at h
  rw [more (g := fun k => pack_Taker_Take.f k b 0 4) (fun k => pack_Taker_Take.mono b 0 4 k) p1 k (by omega), Option.bind_some] at h
  rw [more (g := fun k => pack_Taker_Take.f k (takeS b 0 4).2.1 (takeS b 0 4).2.2 2) (fun k => pack_Taker_Take.mono _ _ _ k) p2 k (by omega), Option.bind_some] at h
  simp only [wv] at h
  by_cases hn : v > 1024
  · rw [if_pos hn] at h
    obtain rfl := Option.some.inj h
    exact ⟨fun q => absurd q (by decide), fun _ => ⟨rfl, rfl⟩⟩
  · rw [if_neg hn] at h
    obtain ⟨h1, h2⟩ := l0_inv v (by omega) v.toNat 0 k s' e' _ [] r (by omega) (Nat.le_refl _) (by omega) h
    refine ⟨fun q => ?_, h2⟩
    obtain ⟨l, g1, g2, g3, g4, g5, k', g6⟩ := h1 q
    subst g4
    obtain ⟨u1, u2, u3, u4⟩ := take_inv 2 (by simp) _ _ _ _ hv
    obtain ⟨w1, w2, w3, w4⟩ := take_inv 4 (by simp) b 0 (takeS b 0 4).1 (takeS b 0 4).2.1 (Prod.ext rfl (Prod.ext rfl u1))
    have w6 : (takeS b 0 4).1 < 4294967296 := w4
    have w5 : (takeS b 0 4).1 % 4294967296 = (takeS b 0 4).1 := by clear g1 h1 h2; omega
    have l5 : l.length ≤ 1024 := by clear g1 h1 h2; omega
    have v5 : ((v.toNat : Nat) : Int) = v := by clear g1 h1 h2; omega
    clear w4
    generalize (takeS b 0 4).1 = x at *
    generalize (takeS b 0 4).2.1 = y at *
    rw [List.nil_append] at g6
    rw [List.nil_append] at g1
    rw [w5] at g1 g6
    rw [g1]
    refine ⟨?_, w3, w6, l5, g5, k', g6⟩
    rw [w2, u2, g2, stateB, g3, v5]
theorem dec_loop_enc (n a : Int) (hn : n ≤ 1024) : ∀ (l : List S66) (i k : Nat) (acc : List S66), (∀ p ∈ l, Fits p ∧ Byte p) → (i : Int) + l.length = n → acc.length ≤ i → l.length + 30 < k → (∀ k', k - l.length - 3 < k' → ckone_State_Check.f k' a (acc ++ l) = some 0) →
    ckone_Decode.l0 k n (i : Int) (podsB l) 0 a acc = some (a, acc ++ l, 0)
  | [], i, k, acc, hf, h, hl, hk, hc => by
    obtain ⟨k, rfl⟩ : ∃ j, k = j + 1 := ⟨k - 1, by omega⟩
    obtain ⟨k, rfl⟩ : ∃ j, k = j + 1 := ⟨k - 1, by omega⟩
    rw [List.length_nil] at h
    have hc' := hc k (by rw [List.length_nil]; omega)
    rw [ckone_Decode.l0, if_neg (by omega), ckone_Decode.j1]
    have he : pack_Taker_End.f (podsB []) 0 = some (0, podsB [], 0) := by
      unfold pack_Taker_End.f podsB
      rw [if_pos rfl, if_pos (by rw [ByteArray.toList_eq])]
    rw [List.append_nil] at hc' ⊢
    rw [he, Option.bind_some]
    simp only [if_true]
    rw [hc', Option.bind_some, if_pos rfl]
  | p :: l, i, k, acc, hf, h, hl, hk, hc => by
    obtain ⟨k, rfl⟩ : ∃ j, k = j + 1 := ⟨k - 1, by omega⟩
    rw [List.length_cons] at h hk
    obtain ⟨⟨f0, f1, f2⟩, b0, b1⟩ := hf p List.mem_cons_self
    have hw : wrap64 ((i : Int) + 1) = ((i + 1 : Nat) : Int) := by rw [i64_id (by omega) (by omega)]; omega
    have e : podsB (p :: l) = txt p.f0 ++ (txt p.f1 ++ (txt p.f2 ++ (strOfNums (beL 1 p.f3) ++ podsB l))) := by
      rw [podsB, podB]; simp only [ByteArray.append_assoc]
    have p1 := take_text p.f0 (txt p.f1 ++ (txt p.f2 ++ (strOfNums (beL 1 p.f3) ++ podsB l))) f0
    have p2 := take_text p.f1 (txt p.f2 ++ (strOfNums (beL 1 p.f3) ++ podsB l)) f1
    have p3 := take_text p.f2 (strOfNums (beL 1 p.f3) ++ podsB l) f2
    have q4 := take_put 1 p.f3 (podsB l) (by simp)
    have v0 : p.f3 % 256 ^ 1 = p.f3 := by omega
    rw [v0] at q4
    have p4 := take_is (strOfNums (beL 1 p.f3) ++ podsB l) 0 1
    rw [show ((1 : Nat) : Int) = 1 from rfl] at q4
    rw [q4] at p4
    have v2 : p.f3 % 256 = p.f3 := by omega
    rw [ckone_Decode.l0, if_pos (by omega), if_pos rfl, e]
    rw [more (g := fun k => pack_Taker_Text.f k _ 0) (fun k => pack_Taker_Text.mono _ 0 k) p1 k (by omega), Option.bind_some]
    rw [more (g := fun k => pack_Taker_Text.f k _ 0) (fun k => pack_Taker_Text.mono _ 0 k) p2 k (by omega), Option.bind_some]
    rw [more (g := fun k => pack_Taker_Text.f k _ 0) (fun k => pack_Taker_Text.mono _ 0 k) p3 k (by omega), Option.bind_some]
    rw [more (g := fun k => pack_Taker_Take.f k _ 0 1) (fun k => pack_Taker_Take.mono _ 0 1 k) p4 k (by omega), Option.bind_some]
    simp only [v2, hw]
    rw [if_pos (by omega)]
    have := dec_loop_enc n a hn l (i + 1) k (acc ++ [p]) (fun q hq => hf q (List.mem_cons_of_mem _ hq)) (by omega) (by rw [List.length_append, List.length_singleton]; omega) (by omega) (fun k' hk' => by
      rw [List.append_assoc]; exact hc k' (by rw [List.length_cons]; omega))
    rw [List.append_assoc] at this
    exact this
/-- A state's bytes are decoded as it was. -/
theorem dec_enc (a : Int) (l : List S66) (ha : 0 ≤ a) (ha2 : a < 4294967296) (hl : l.length ≤ 1024) (hf : ∀ p ∈ l, Fits p ∧ Byte p) (k : Nat) (hk : 2000 < k) (hc : ∀ k', k - 1100 < k' → ckone_State_Check.f k' a l = some 0) :
    ckone_Decode.f k (stateB a l) = some (a, l, 0) := by
  have q1 := take_put 4 a (strOfNums (beL 2 l.length) ++ podsB l) (by simp)
  have q2 := take_put 2 l.length (podsB l) (by simp)
  have v1 : a % 256 ^ 4 = a := by omega
  have v2 : (l.length : Int) % 256 ^ 2 = l.length := by omega
  rw [v1] at q1
  rw [v2] at q2
  have p1 := take_is (stateB a l) 0 4
  have p2 := take_is (strOfNums (beL 2 l.length) ++ podsB l) 0 2
  rw [show ((4 : Nat) : Int) = 4 from rfl] at q1
  rw [show ((2 : Nat) : Int) = 2 from rfl] at q2
  rw [stateB, q1] at p1
  rw [q2] at p2
  have wv : wrap64 (l.length : Int) = l.length := i64_id (by omega) (by omega)
  rw [ckone_Decode.f, stateB]
  rw [more (g := fun k => pack_Taker_Take.f k _ 0 4) (fun k => pack_Taker_Take.mono _ 0 4 k) p1 k (by omega), Option.bind_some]
  rw [more (g := fun k => pack_Taker_Take.f k _ 0 2) (fun k => pack_Taker_Take.mono _ _ _ k) p2 k (by omega), Option.bind_some]
  simp only [wv]
  rw [if_neg (by omega)]
  have w5 : a % 4294967296 = a := by omega
  have hx : IntKind.u32.wrap a = a := by simp [IntKind.wrap, IntKind.bits, IntKind.signed]; omega
  first | rw [w5] | rw [hx]
  have := dec_loop_enc (l.length : Int) a (by omega) l 0 k [] hf (by omega) (Nat.le_refl _) (by omega) (fun k' hk' => hc k' (by omega))
  exact this
theorem ext_size (s : ByteArray) (a b : Nat) : (s.extract a b).size ≤ s.size := by rw [ByteArray.size_extract]; omega
theorem bytes_size (s : ByteArray) (e n : Int) (t : ByteArray) (ok : Bool) (s' : ByteArray) (e' : Int) (h : pack_Taker_bytes.f s e n = some (t, ok, s', e')) : t.size ≤ s.size ∧ s'.size ≤ s.size := by
  unfold pack_Taker_bytes.f at h
  repeat' split at h
  all_goals first | (cases h; done) | skip
  all_goals simp only [Option.some.injEq, Prod.mk.injEq] at h
  all_goals obtain ⟨rfl, _, rfl, _⟩ := h
  · exact ⟨Nat.zero_le _, Nat.le_refl _⟩
  · exact ⟨ext_size _ _ _, ext_size _ _ _⟩
  · exact ⟨Nat.zero_le _, Nat.le_refl _⟩
theorem takeS_size (s : ByteArray) (e n : Int) : (takeS s e n).2.1.size ≤ s.size := by
  unfold takeS
  repeat' split
  all_goals first | exact Nat.le_refl _ | exact ext_size _ _ _
theorem text_size (s : ByteArray) (e : Int) (t s' : ByteArray) (e' : Int) (h : pack_Taker_Text.f 20 s e = some (t, s', e')) : t.size ≤ s.size ∧ s'.size ≤ s.size := by
  rw [pack_Taker_Text.f, take_is, Option.bind_some] at h
  have h0 := takeS_size s e 2
  split at h
  · rw [show pack_Taker_back.f (takeS s e 2).2.1 (takeS s e 2).2.2 s 2 = some (s, 2) from rfl, Option.bind_some] at h
    obtain ⟨⟨t1, ok, s1, e1⟩, hb, h⟩ := Option.bind_eq_some_iff.1 h
    have hz := bytes_size _ _ _ _ _ _ _ hb
    split at h
    · injection h with h; injection h with h1 h2; injection h2 with h2 h3; subst h1 h2 h3; exact hz
    · injection h with h; injection h with h1 h2; injection h2 with h2 h3; subst h1 h2 h3; exact ⟨hz.1, Nat.le_refl _⟩
  · obtain ⟨⟨t1, ok, s1, e1⟩, hb, h⟩ := Option.bind_eq_some_iff.1 h
    have hz := bytes_size _ _ _ _ _ _ _ hb
    split at h
    · injection h with h; injection h with h1 h2; injection h2 with h2 h3; subst h1 h2 h3; exact ⟨Nat.le_trans hz.1 h0, Nat.le_trans hz.2 h0⟩
    · injection h with h; injection h with h1 h2; injection h2 with h2 h3; subst h1 h2 h3; exact ⟨Nat.le_trans hz.1 h0, Nat.le_refl _⟩
theorem j1_some (s : ByteArray) (e a : Int) (acc : List S66) (hacc : ∀ p ∈ acc, Short 20000 p) (hl : acc.length ≤ 2000) (k : Nat) (hk : 48000 < k) : ∃ r, ckone_Decode.j1 k s e a acc = some r := by
  obtain ⟨k, rfl⟩ : ∃ j, k = j + 1 := ⟨k - 1, by omega⟩
  have h1 : ∃ c, pack_Taker_End.f s e = some (c, s, e) := by
    unfold pack_Taker_End.f
    by_cases he : e = 0
    · rw [if_pos he]
      by_cases hs : s.toList = []
      · rw [if_pos hs]; exact ⟨_, rfl⟩
      · rw [if_neg hs]; exact ⟨_, rfl⟩
    · rw [if_neg he]; exact ⟨_, rfl⟩
  obtain ⟨c, h1⟩ := h1
  rw [ckone_Decode.j1, h1, Option.bind_some]
  by_cases hc : c = 0
  · obtain ⟨r0, c1⟩ := check_some acc a 20000 (by omega) (by omega) hacc k (by omega)
    rw [if_pos hc, c1, Option.bind_some]
    by_cases h0 : r0 = 0
    · exact ⟨(a, acc, 0), by rw [if_pos h0]⟩
    · exact ⟨(0, [], r0), by rw [if_neg h0]⟩
  · exact ⟨(0, [], c), by rw [if_neg hc]⟩
theorem l0_some (n : Int) (hn : n ≤ 1024) : ∀ (d i k : Nat) (s : ByteArray) (e a : Int) (acc : List S66), (i : Int) + d = n → s.size ≤ 20000 → (∀ p ∈ acc, Short 20000 p) → acc.length ≤ i → 50000 + d < k → ∃ r, ckone_Decode.l0 k n (i : Int) s e a acc = some r := by
  intro d
  induction d with
  | zero =>
    intro i k s e a acc h hs hacc hl hk
    obtain ⟨k, rfl⟩ : ∃ j, k = j + 1 := ⟨k - 1, by omega⟩
    rw [ckone_Decode.l0, if_neg (by omega)]
    exact j1_some s e a acc hacc (by omega) k (by omega)
  | succ d ih =>
    intro i k s e a acc h hs hacc hl hk
    obtain ⟨k, rfl⟩ : ∃ j, k = j + 1 := ⟨k - 1, by omega⟩
    have hw : wrap64 ((i : Int) + 1) = ((i + 1 : Nat) : Int) := by rw [i64_id (by omega) (by omega)]; omega
    have hin : (i : Int) < n := by omega
    rw [ckone_Decode.l0, if_pos hin]
    by_cases he : e = 0
    · rw [if_pos he]
      obtain ⟨t1, s1, e1, p1⟩ := text_some s e
      obtain ⟨t2, s2, e2, p2⟩ := text_some s1 e1
      obtain ⟨t3, s3, e3, p3⟩ := text_some s2 e2
      have z1 := text_size _ _ _ _ _ p1
      have z2 := text_size _ _ _ _ _ p2
      have z3 := text_size _ _ _ _ _ p3
      have p4 := take_is s3 e3 1
      have z4 := takeS_size s3 e3 1
      rw [more (g := fun k => pack_Taker_Text.f k s e) (fun k => pack_Taker_Text.mono s e k) p1 k (by omega), Option.bind_some]
      rw [more (g := fun k => pack_Taker_Text.f k s1 e1) (fun k => pack_Taker_Text.mono s1 e1 k) p2 k (by omega), Option.bind_some]
      rw [more (g := fun k => pack_Taker_Text.f k s2 e2) (fun k => pack_Taker_Text.mono s2 e2 k) p3 k (by omega), Option.bind_some]
      rw [more (g := fun k => pack_Taker_Take.f k s3 e3 1) (fun k => pack_Taker_Take.mono s3 e3 1 k) p4 k (by omega), Option.bind_some]
      rw [if_pos (by omega), hw]
      exact ih (i + 1) k (takeS s3 e3 1).2.1 (takeS s3 e3 1).2.2 a (acc ++ [⟨t1, t2, t3, (takeS s3 e3 1).1 % 256⟩]) (by omega) (by omega) (fun p hp => by
        rcases List.mem_append.1 hp with hp | hp
        · exact hacc p hp
        · rw [List.mem_singleton.1 hp]
          exact ⟨by show t1.size ≤ _; omega, by show t2.size ≤ _; omega, by show t3.size ≤ _; omega⟩) (by rw [List.length_append, List.length_singleton]; omega) (by omega)
    · rw [if_neg he]
      exact j1_some s e a acc hacc (by omega) k (by omega)
/-- Decode comes to an answer. -/
theorem dec_some (b : ByteArray) (hb : b.size ≤ 20000) (k : Nat) (hk : 60000 < k) : ∃ r, ckone_Decode.f k b = some r := by
  have p1 := take_is b 0 4
  have z1 := takeS_size b 0 4
  obtain ⟨v, s', e', hv, v0, v1, _, _⟩ := take_cases (takeS b 0 4).2.1 (takeS b 0 4).2.2 2 (.inr rfl)
  have p2 := take_is (takeS b 0 4).2.1 (takeS b 0 4).2.2 2
  have z2 := takeS_size (takeS b 0 4).2.1 (takeS b 0 4).2.2 2
  rw [hv] at p2 z2
  have wv : wrap64 v = v := i64_id (by omega) (by omega)
  rw [ckone_Decode.f]
  rw [more (g := fun k => pack_Taker_Take.f k b 0 4) (fun k => pack_Taker_Take.mono b 0 4 k) p1 k (by omega), Option.bind_some]
  rw [more (g := fun k => pack_Taker_Take.f k (takeS b 0 4).2.1 (takeS b 0 4).2.2 2) (fun k => pack_Taker_Take.mono _ _ _ k) p2 k (by omega), Option.bind_some]
  simp only [wv]
  by_cases h : v > 1024
  · exact ⟨(0, [], 18), by rw [if_pos h]⟩
  · rw [if_neg h]
    exact l0_some v (by omega) v.toNat 0 k s' e' _ [] (by omega) (by have : s'.size ≤ _ := z2; omega) (fun p hp => by cases hp) (Nat.le_refl _) (by omega)
end Go.Proofs.YtpmbdcljphpcnaaDoor.Pure
