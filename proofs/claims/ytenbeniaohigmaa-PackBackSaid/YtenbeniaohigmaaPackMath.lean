/- Plain lemmas on the bytes of numbers and texts (layer 2): what the program's Put, Int, Flag, Text and the document's answer. No conditions beside those stated. -/
import Derived.Test.YtenbeniaohigmaaGPackx2
namespace Go.Proofs.Ytenbeniaohigmaa.Pure
open Go.RowKit Go.Proofs.Ytenbeniaohigmaa.GPack Go.Proofs.YtenbeniaohigmaaW.PrintWords Go.Proofs.YtenbeniaohigmaaW.PrintLast Go.Proofs.YtenbeniaohigmaaW.PrintMore

/-- The n low bytes of v, the greatest first. -/
def beL : Nat → Int → List Int
  | 0, _ => []
  | n + 1, v => beL n (v / 256) ++ [v % 256]

theorem strOfNums_append (xs ys : List Int) : strOfNums xs ++ strOfNums ys = strOfNums (xs ++ ys) := by
  apply ByteArray.ext
  simp [strOfNums]
theorem list8 {a b c d e f g h a' b' c' d' e' f' g' h' : Int} (ha : a = a') (hb : b = b') (hc : c = c') (hd : d = d') (he : e = e') (hf : f = f') (hg : g = g') (hh : h = h') : strOfNums [a, b, c, d, e, f, g, h] = strOfNums [a', b', c', d', e', f', g', h'] := by subst ha hb hc hd he hf hg hh; rfl
theorem list4 {a b c d a' b' c' d' : Int} (ha : a = a') (hb : b = b') (hc : c = c') (hd : d = d') : strOfNums [a, b, c, d] = strOfNums [a', b', c', d'] := by subst ha hb hc hd; rfl
theorem list2 {a b a' b' : Int} (ha : a = a') (hb : b = b') : strOfNums [a, b] = strOfNums [a', b'] := by subst ha hb; rfl

theorem put1 (k : Nat) (v : Int) : pack_Put.f (k + 2) 1 v = some (strOfNums (beL 1 v)) := by
  simp [pack_Put.f, pack_size.f, pack_Put.l0, wrap64, shr, beL]
theorem put2 (k : Nat) (v : Int) : pack_Put.f (k + 3) 2 v = some (strOfNums (beL 2 v)) := by
  simp [pack_Put.f, pack_size.f, pack_Put.l0, wrap64, shr, beL, List.replicate]
  exact list2 (by show v / 2 ^ 8 % 256 = _; omega) rfl
theorem put4 (k : Nat) (v : Int) : pack_Put.f (k + 5) 4 v = some (strOfNums (beL 4 v)) := by
  simp [pack_Put.f, pack_size.f, pack_Put.l0, wrap64, shr, beL, List.replicate]
  exact list4 (by show v / 2 ^ 24 % 256 = _; omega) (by show v / 2 ^ 16 % 256 = _; omega) (by show v / 2 ^ 8 % 256 = _; omega) rfl
theorem put8 (k : Nat) (v : Int) : pack_Put.f (k + 9) 8 v = some (strOfNums (beL 8 v)) := by
  simp [pack_Put.f, pack_size.f, pack_Put.l0, wrap64, shr, beL, List.replicate]
  exact list8 (by show v / 2 ^ 56 % 256 = _; omega) (by show v / 2 ^ 48 % 256 = _; omega) (by show v / 2 ^ 40 % 256 = _; omega) (by show v / 2 ^ 32 % 256 = _; omega) (by show v / 2 ^ 24 % 256 = _; omega) (by show v / 2 ^ 16 % 256 = _; omega) (by show v / 2 ^ 8 % 256 = _; omega) rfl
theorem putx (k : Nat) (n v : Int) (h1 : n ≠ 1) (h2 : n ≠ 2) (h4 : n ≠ 4) (h8 : n ≠ 8) : pack_Put.f k n v = some ⟨#[]⟩ := by
  simp [pack_Put.f, pack_size.f, h1, h2, h4, h8]

/-- A quotient by 256 of a number of 64 bits. -/
theorem quo {v : Int} (h0 : 0 ≤ v) (h1 : v < 18446744073709551616) : IntKind.u64.wrap (Int.tdiv v 256) = v / 256 := by
  rw [Int.tdiv_eq_ediv_of_nonneg h0]
  exact u64_id (by omega) (by omega)
theorem rest {v : Int} (h0 : 0 ≤ v) : Int.tmod v 256 % 256 = v % 256 := by
  rw [Int.tmod_eq_emod_of_nonneg h0]; omega
/-- One round of the reference's loop. -/
theorem ref_round (k : Nat) (n v : Int) (s : ByteArray) (i : Int) (h0 : 0 ≤ v) (h1 : v < 18446744073709551616) (hi : i < n) (h2 : 0 ≤ i) (hn : n ≤ 8) (hs : s.size ≤ 100) :
    bosunref02_Put.l0 (k + 1) n v s i = bosunref02_Put.l0 k n (v / 256) (strOfNums [v % 256] ++ s) (i + 1) := by
  simp only [bosunref02_Put.l0]
  rw [if_pos hi, quo h0 h1, rest h0, i64_id (by omega) (by omega)]
  simp only [Option.bind_some]
  rw [if_pos (by rw [strOfNums_size]; simp; omega)]
theorem ref_end (k : Nat) (n v : Int) (s : ByteArray) : bosunref02_Put.l0 (k + 1) n v s n = some s := by
  simp only [bosunref02_Put.l0]
  rw [if_neg (by omega)]
theorem ref_rounds (d : Nat) : ∀ (k : Nat) (n v : Int) (xs : List Int), 0 ≤ v → v < 18446744073709551616 → (d : Int) ≤ n → n ≤ 8 → xs.length ≤ 90 - d →
    bosunref02_Put.l0 (k + d + 1) n v (strOfNums xs) (n - d) = some (strOfNums (beL d v ++ xs)) := by
  induction d with
  | zero => intro k n v xs _ _ _ _ _; simpa [beL] using ref_end k n v (strOfNums xs)
  | succ d ih =>
    intro k n v xs h0 h1 hd hn hx
    rw [show k + (d + 1) + 1 = (k + d + 1) + 1 from by omega, ref_round _ _ _ _ _ h0 h1 (by omega) (by omega) hn (by rw [strOfNums_size]; omega), strOfNums_append, show n - ((d + 1 : Nat) : Int) + 1 = n - (d : Nat) from by omega]
    rw [ih k n (v / 256) ([v % 256] ++ xs) (by omega) (by omega) (by omega) hn (by simp; omega)]
    simp [beL]
theorem rput (k : Nat) (n : Nat) (v : Int) (h0 : 0 ≤ v) (h1 : v < 18446744073709551616) (hn : n = 1 ∨ n = 2 ∨ n = 4 ∨ n = 8) : bosunref02_Put.f (k + 10) n v = some (strOfNums (beL n v)) := by
  have e : bosunref02_Put.l0 (k + 9) n v (⟨#[]⟩ : ByteArray) 0 = some (strOfNums (beL n v)) := by
    have h := ref_rounds n (k + 8 - n) n v [] h0 h1 (by omega) (by omega) (by simp)
    rw [show k + 8 - n + n + 1 = k + 9 from by omega] at h
    have h' : bosunref02_Put.l0 (k + 9) n v (strOfNums []) 0 = some (strOfNums (beL n v)) := by simpa using h
    exact h'
  rcases hn with rfl | rfl | rfl | rfl <;> simp only [bosunref02_Put.f, bosunref02_Put.j0] <;> simpa using e
theorem rputx (k : Nat) (n v : Int) (h1 : n ≠ 1) (h2 : n ≠ 2) (h4 : n ≠ 4) (h8 : n ≠ 8) : bosunref02_Put.f (k + 1) n v = some ⟨#[]⟩ := by
  simp [bosunref02_Put.f, bosunref02_Put.j0, h1, h2, h4, h8]
theorem awake (k : Nat) : bosunlaw02_Awake.f (k + 10) = some true := by
  have h : bosunlaw02_Awake.f 10 = some true := by decide +kernel
  exact at_rounds (fun k => bosunlaw02_Awake.mono k) (by omega) h
/-- Both ways of writing a text of at most 4096 bytes. -/
theorem text (k : Nat) (s : ByteArray) (hs : s.size ≤ 4096) : pack_Text.f (k + 10) s = some (strOfNums (beL 2 s.size) ++ s, 0) := by
  unfold pack_Text.f
  rw [if_neg (by omega), u64_id (by omega) (by omega), show k + 10 = (k + 7) + 3 from rfl, put2]
  simp only [Option.bind_some]
  rw [if_pos (by rw [strOfNums_size]; simp [beL]; omega)]
theorem rtext (k : Nat) (s : ByteArray) (hs : s.size ≤ 4096) : bosunref02_Text.f (k + 10) s = some (strOfNums (beL 2 s.size) ++ s) := by
  unfold bosunref02_Text.f
  rw [u64_id (by omega) (by omega)]
  have h2 : bosunref02_Put.f (k + 10) 2 s.size = some (strOfNums (beL 2 s.size)) := rput k 2 s.size (by omega) (by omega) (by simp)
  rw [h2]
  simp only [Option.bind_some]
  rw [if_pos (by rw [strOfNums_size]; simp [beL]; omega)]
theorem text_long (k : Nat) (s : ByteArray) (hs : 4096 < s.size) : pack_Text.f k s = some (⟨#[]⟩, 2) := by
  unfold pack_Text.f
  rw [if_pos (by omega)]
theorem flags (b : Bool) : ∃ s, pack_Flag.f b = some s ∧ bosunref02_Flag.f b = some s := by cases b <;> exact ⟨_, rfl, rfl⟩
theorem u64_wf {v : Int} (h : (Lit.int .u64 v).wf = true) : 0 ≤ v ∧ v < 18446744073709551616 := by
  simp [Lit.wf, IntKind.min, IntKind.max, IntKind.bits, IntKind.signed] at h
  omega
theorem both (n v : Int) (h0 : 0 ≤ v) (h1 : v < 18446744073709551616) : ∃ s, pack_Put.f 20 n v = some s ∧ bosunref02_Put.f 20 n v = some s := by
  by_cases e1 : n = 1
  · subst e1; exact ⟨_, put1 18 v, rput 10 1 v h0 h1 (by simp)⟩
  by_cases e2 : n = 2
  · subst e2; exact ⟨_, put2 17 v, rput 10 2 v h0 h1 (by simp)⟩
  by_cases e4 : n = 4
  · subst e4; exact ⟨_, put4 15 v, rput 10 4 v h0 h1 (by simp)⟩
  by_cases e8 : n = 8
  · subst e8; exact ⟨_, put8 11 v, rput 10 8 v h0 h1 (by simp)⟩
  exact ⟨_, putx 20 n v e1 e2 e4 e8, rputx 19 n v e1 e2 e4 e8⟩
theorem int8 (v : Int) (h0 : 0 ≤ v) (h1 : v < 18446744073709551616) : pack_Int.f 20 (wrap64 v) = some (strOfNums (beL 8 v)) := by
  unfold pack_Int.f
  rw [show IntKind.u64.wrap (wrap64 v) = v from by simp [IntKind.wrap, IntKind.bits, IntKind.signed, wrap64]; omega]
  rw [show 20 = 11 + 9 from rfl, put8]
  rfl

end Go.Proofs.Ytenbeniaohigmaa.Pure
