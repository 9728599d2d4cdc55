/- The bytes that ckone writes. Plain lemmas. No conditions beside those stated. -/
import Derived.Test.YtpmbdcljphpcnaaDoorCkCheck
import Derived.Test.YtpmbdcljphpcnaaDoorGCkEncode
namespace Go.Proofs.YtpmbdcljphpcnaaDoor.Pure
open Go.RowKit Go.Proofs.YtpmbdcljphpcnaaDoor.GCk Go.Proofs.YtpmbdcljphpcnaaDoorW.PrintWords Go.Proofs.YtpmbdcljphpcnaaDoorW.PrintLast Go.Proofs.YtpmbdcljphpcnaaDoorW.PrintMore

/-- The n low bytes of v, the greatest first. -/
def beL : Nat → Int → List Int
  | 0, _ => []
  | n + 1, v => beL n (v / 256) ++ [v % 256]
theorem list4 {a b c d a' b' c' d' : Int} (ha : a = a') (hb : b = b') (hc : c = c') (hd : d = d') : strOfNums [a, b, c, d] = strOfNums [a', b', c', d'] := by subst ha hb hc hd; rfl
theorem list2 {a b a' b' : Int} (ha : a = a') (hb : b = b') : strOfNums [a, b] = strOfNums [a', b'] := by subst ha hb; rfl
theorem put1 (k : Nat) (v : Int) : pack_Put.f (k + 2) 1 v = some (strOfNums (beL 1 v)) := by
  simp [pack_Put.f, pack_size.f, pack_Put.l0, wrap64, shr, beL]
theorem put2 (k : Nat) (v : Int) : pack_Put.f (k + 3) 2 v = some (strOfNums (beL 2 v)) := by
  simp [pack_Put.f, pack_size.f, pack_Put.l0, wrap64, shr, beL, List.replicate]
  exact list2 (by show v / 2 ^ 8 % 256 = _; omega) rfl
theorem put4 (k : Nat) (v : Int) : pack_Put.f (k + 5) 4 v = some (strOfNums (beL 4 v)) := by
  simp [pack_Put.f, pack_size.f, pack_Put.l0, wrap64, shr, beL, List.replicate]
  exact list4 (by show v / 2 ^ 24 % 256 = _; omega) (by show v / 2 ^ 16 % 256 = _; omega) (by show v / 2 ^ 8 % 256 = _; omega) rfl
theorem beL_len (n : Nat) : ∀ v : Int, (beL n v).length = n := by
  induction n with
  | zero => intro v; rfl
  | succ n ih => intro v; simp [beL, ih]
theorem strNums_size (xs : List Int) : (strOfNums xs).size = xs.length := by
  show (strOfNums xs).data.size = _
  simp [strOfNums]
/-- A text's bytes. -/
def txt (t : ByteArray) : ByteArray := strOfNums (beL 2 t.size) ++ t
theorem text_put (k : Nat) (s : ByteArray) (hs : s.size ≤ 4096) : pack_Text.f (k + 10) s = some (txt s, 0) := by
  unfold pack_Text.f
  rw [if_neg (by omega), u64_id (by omega) (by omega), show k + 10 = (k + 7) + 3 from rfl, put2]
  simp only [Option.bind_some]
  rw [if_pos (by rw [strNums_size]; simp [beL]; omega)]
  rfl
theorem text_long (k : Nat) (s : ByteArray) (hs : 4096 < s.size) : pack_Text.f k s = some (⟨#[]⟩, 2) := by
  unfold pack_Text.f
  rw [if_pos (by omega)]
/-- The bytes of pods. -/
def podB (p : S66) : ByteArray := txt p.f0 ++ (txt p.f1 ++ (txt p.f2 ++ strOfNums (beL 1 p.f3)))
def podsB : List S66 → ByteArray
  | [] => ⟨#[]⟩
  | p :: ps => podB p ++ podsB ps
def Fits (p : S66) : Prop := p.f0.size ≤ 4096 ∧ p.f1.size ≤ 4096 ∧ p.f2.size ≤ 4096
def Byte (p : S66) : Prop := 0 ≤ p.f3 ∧ p.f3 < 256
theorem txt_size (t : ByteArray) : (txt t).size = 2 + t.size := by rw [txt, ByteArray.size_append, strNums_size, beL_len]
theorem nums1_size (v : Int) : (strOfNums (beL 1 v)).size = 1 := by rw [strNums_size, beL_len]
/-- What the pods' bytes are, or that a text is too long. -/
theorem encPods_is (k : Nat) : ∀ (l : List S66) (acc : ByteArray), (∀ p ∈ l, Byte p ∧ Short 20000 p) → acc.size + 70000 * l.length ≤ 100000000000 →
    (encPods (k + 10) acc l = some (acc ++ podsB l, 0) ∧ ∀ p ∈ l, Fits p) ∨ (∃ x e, encPods (k + 10) acc l = some (x, e) ∧ e ≠ 0 ∧ ¬ ∀ p ∈ l, Fits p)
  | [], acc, _, _ => .inl ⟨by rw [encPods, podsB, show acc ++ (⟨#[]⟩ : ByteArray) = acc from ByteArray.append_empty], fun p hp => by cases hp⟩
  | p :: l, acc, h, hs => by
    rw [List.length_cons] at hs
    obtain ⟨⟨b0, b1⟩, s0, s1, s2⟩ := h p List.mem_cons_self
    rw [encPods]
    by_cases h0 : p.f0.size ≤ 4096
    · by_cases h1 : p.f1.size ≤ 4096
      · by_cases h2 : p.f2.size ≤ 4096
        · have ih := encPods_is k l (acc ++ podB p) (fun q hq => h q (List.mem_cons_of_mem _ hq)) (by
            rw [podB]; simp only [ByteArray.size_append, txt_size, nums1_size]; omega)
          have e : encTexts (k + 10) acc [p.f0, p.f1, p.f2] = some (acc ++ txt p.f0 ++ txt p.f1 ++ txt p.f2, 0) := by
            simp only [encTexts, text_put k _ h0, text_put k _ h1, text_put k _ h2, Option.bind_some, ByteArray.size_append, txt_size, if_true]
            rw [if_pos (by omega), if_pos (by omega), if_pos (by omega)]
          have w : IntKind.u64.wrap p.f3 = p.f3 := u64_id b0 (by omega)
          rw [e, Option.bind_some, w, show k + 10 = (k + 8) + 2 from rfl, put1, Option.bind_some]
          simp only [if_true]
          rw [if_pos (by simp only [ByteArray.size_append, txt_size, nums1_size]; omega)]
          have a : acc ++ txt p.f0 ++ txt p.f1 ++ txt p.f2 ++ strOfNums (beL 1 p.f3) = acc ++ podB p := by
            rw [podB]; simp only [ByteArray.append_assoc]
          rw [a, podsB, ← ByteArray.append_assoc]
          rcases ih with ⟨i1, i2⟩ | ⟨x, e, i1, i2, i3⟩
          · exact .inl ⟨i1, fun q hq => by
              rcases List.mem_cons.1 hq with rfl | hq
              · exact ⟨h0, h1, h2⟩
              · exact i2 q hq⟩
          · exact .inr ⟨x, e, i1, i2, fun hf => i3 fun q hq => hf q (List.mem_cons_of_mem _ hq)⟩
        · right
          have e : encTexts (k + 10) acc [p.f0, p.f1, p.f2] = some (⟨#[]⟩, 2) := by
            simp only [encTexts, text_put k _ h0, text_put k _ h1, text_long (k + 10) _ (Nat.lt_of_not_le h2), Option.bind_some, ByteArray.size_append, txt_size, if_true]
            rw [if_pos (by omega), if_pos (by omega), if_neg (by decide)]
          rw [e, Option.bind_some, if_neg (show ¬ ((2 : Int) = 0) by decide)]
          exact ⟨_, _, rfl, by decide, fun hf => h2 (hf p List.mem_cons_self).2.2⟩
      · right
        have e : encTexts (k + 10) acc [p.f0, p.f1, p.f2] = some (⟨#[]⟩, 2) := by
          simp only [encTexts, text_put k _ h0, text_long (k + 10) _ (Nat.lt_of_not_le h1), Option.bind_some, ByteArray.size_append, txt_size, if_true]
          rw [if_pos (by omega), if_neg (by decide)]
        rw [e, Option.bind_some, if_neg (show ¬ ((2 : Int) = 0) by decide)]
        exact ⟨_, _, rfl, by decide, fun hf => h1 (hf p List.mem_cons_self).2.1⟩
    · right
      have e : encTexts (k + 10) acc [p.f0, p.f1, p.f2] = some (⟨#[]⟩, 2) := by
        simp only [encTexts, text_long (k + 10) _ (Nat.lt_of_not_le h0), Option.bind_some]
        rw [if_neg (by decide)]
      rw [e, Option.bind_some, if_neg (show ¬ ((2 : Int) = 0) by decide)]
      exact ⟨_, _, rfl, by decide, fun hf => h0 (hf p List.mem_cons_self).1⟩
/-- A state's bytes. -/
def stateB (a : Int) (l : List S66) : ByteArray := strOfNums (beL 4 a) ++ (strOfNums (beL 2 l.length) ++ podsB l)
theorem check_len (k : Nat) (a : Int) (l : List S66) (h : ckone_State_Check.f k a l = some 0) : l.length ≤ 1024 := by
  rw [ckone_State_Check.f] at h
  by_cases hl : (l.length : Int) > 1024
  · rw [if_pos hl] at h
    cases h
  · omega
/-- What Encode answers. -/
theorem enc_is (a : Int) (l : List S66) (ha : 0 ≤ a) (ha2 : a < 4294967296) (h : ∀ p ∈ l, Byte p ∧ Short 20000 p) (k : Nat) (hk : 20 ≤ k) (c : Int) (hc : ckone_State_Check.f k a l = some c) :
    (c = 0 ∧ (∀ p ∈ l, Fits p) ∧ ckone_Encode.f k a l = some (stateB a l, 0)) ∨ (∃ x e, ckone_Encode.f k a l = some (x, e) ∧ e ≠ 0 ∧ (c = 0 → ¬ ∀ p ∈ l, Fits p) ∧ (c ≠ 0 → x = ⟨#[]⟩ ∧ e = c)) := by
  rw [ckone_Encode.f, hc, Option.bind_some]
  by_cases h0 : c = 0
  · subst h0
    have hl := check_len k a l hc
    rw [if_pos rfl]
    have w1 : IntKind.u64.wrap a = a := u64_id ha (by omega)
    have w2 : IntKind.u64.wrap (l.length : Int) = l.length := u64_id (by omega) (by omega)
    obtain ⟨k, rfl⟩ : ∃ j, k = j + 10 := ⟨k - 10, by omega⟩
    rw [w1, w2, show k + 10 = (k + 5) + 5 from rfl, put4, Option.bind_some, show k + 5 + 5 = (k + 7) + 3 from rfl, put2, Option.bind_some, if_pos (by simp only [strNums_size, beL_len]; omega), show k + 7 + 3 = k + 10 from rfl]
    rcases encPods_is k l (strOfNums (beL 4 a) ++ strOfNums (beL 2 l.length)) h (by simp only [ByteArray.size_append, strNums_size, beL_len]; omega) with ⟨h1, h2⟩ | ⟨x, e, h1, h2, h3⟩
    · exact .inl ⟨rfl, h2, by rw [h1, stateB, ByteArray.append_assoc]⟩
    · exact .inr ⟨x, e, h1, h2, fun _ => h3, fun q => absurd rfl q⟩
  · rw [if_neg h0]
    exact .inr ⟨_, _, rfl, h0, fun q => absurd q h0, fun _ => ⟨rfl, rfl⟩⟩
end Go.Proofs.YtpmbdcljphpcnaaDoor.Pure
