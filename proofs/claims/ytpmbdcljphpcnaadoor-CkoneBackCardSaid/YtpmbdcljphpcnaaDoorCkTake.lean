/- The Taker of pack: the program's and the document's (as in the claims of layer 2). Plain lemmas. No conditions beside those stated. -/
import Derived.Test.YtpmbdcljphpcnaaDoorGCkx11
namespace Go.Proofs.YtpmbdcljphpcnaaDoor.Pure
open Go.RowKit Go.Proofs.YtpmbdcljphpcnaaDoor.GCk Go.Proofs.YtpmbdcljphpcnaaDoorW.PrintWords Go.Proofs.YtpmbdcljphpcnaaDoorW.PrintLast Go.Proofs.YtpmbdcljphpcnaaDoorW.PrintMore

/-- A number of bytes, the greatest first, behind what came ahead. -/
def valL (xs : List Int) (v : Int) : Int := xs.foldl (fun v b => v * 256 + b) v
theorem bytes_bd (x : ByteArray) : ∀ b ∈ bytesOf x, 0 ≤ b ∧ b < 256 := by
  intro b hb
  simp only [bytesOf, List.mem_map] at hb
  obtain ⟨c, _, rfl⟩ := hb
  have := c.toNat_lt
  omega
theorem bytes_len (x : ByteArray) : (bytesOf x).length = x.size := by
  show (List.map _ x.data.toList).length = x.data.size
  rw [List.length_map, Array.length_toList]
theorem bytes_strOfNums (x : ByteArray) : strOfNums (bytesOf x) = x := by
  apply ByteArray.ext
  simp [strOfNums, bytesOf, Function.comp_def]
theorem bt_drop (x : ByteArray) (i : Nat) (h : i < x.size) : (bytesOf x).drop i = bt x i :: (bytesOf x).drop (i + 1) := by
  rw [List.drop_eq_getElem_cons (by rw [bytes_len]; exact h)]
  congr 1
  simp only [bytesOf, List.getElem_map, bt, Int.toNat_natCast, dif_pos h]
  rfl
theorem or_byte {x b : Int} (h0 : 0 ≤ x) (hx : x % 256 = 0) (h1 : x < 18446744073709551616) (hb0 : 0 ≤ b) (hb : b < 256) : Go.bits .or .u64 x b = x + b :=
  bits_join .u64 64 (by decide) (fun n h0 h1 => u64_id h0 (by omega)) 8 x b h0 hx h1 hb0 hb (by omega)
theorem bt_bd (x : ByteArray) (i : Int) : 0 ≤ bt x i ∧ bt x i < 256 := by
  unfold bt
  split
  · have := (x[i.toNat]).toNat_lt
    omega
  · omega
theorem take_loop (x rest : ByteArray) (e : Int) (hx : x.size ≤ 8) (d : Nat) : ∀ (k i : Nat) (v : Int), i + d = x.size → 0 ≤ v → v < ((256 ^ i : Nat) : Int) →
    pack_Taker_Take.l0 (k + d + 1) x v x.size i rest e = some (valL ((bytesOf x).drop i) v, rest, e) := by
  induction d with
  | zero =>
    intro k i v hi _ _
    rw [pack_Taker_Take.l0, if_neg (by omega), List.drop_of_length_le (by rw [bytes_len]; omega)]
    rfl
  | succ d ih =>
    intro k i v hi h0 h1
    obtain ⟨hb0, hb1⟩ := bt_bd x i
    have hp : 256 ^ i ≤ 256 ^ 7 := Nat.pow_le_pow_right (by omega) (by omega)
    have hv : v * 256 < 18446744073709551616 := by omega
    rw [show k + (d + 1) + 1 = (k + d + 1) + 1 from by omega]
    rw [pack_Taker_Take.l0, if_pos (by omega), if_pos (by omega), if_pos (by omega), u64_id (x := v * 256) (by omega) (by omega), u64_id (x := bt x i) hb0 (by omega), or_byte (by omega) (by omega) hv hb0 hb1, i64_id (by omega) (by omega)]
    have := ih k (i + 1) (v * 256 + bt x i) (by omega) (by omega) (by rw [Nat.pow_succ]; omega)
    rw [show ((i : Int) + 1) = ((i + 1 : Nat) : Int) from by omega, this, bt_drop x i (by omega)]
    rfl
/-- What a Taker takes: the number, what is left, the error. -/
def takeS (s : ByteArray) (e n : Int) : Int × ByteArray × Int :=
  if e = 0 then
    if n = 1 ∨ n = 2 ∨ n = 4 ∨ n = 8 then
      if (s.size : Int) < n then (0, s, 1) else (valL (bytesOf (s.extract 0 n.toNat)) 0, s.extract n.toNat s.size, 0)
    else (0, s, 7)
  else (0, s, e)
theorem take_is (s : ByteArray) (e n : Int) : pack_Taker_Take.f 20 s e n = some (takeS s e n) := by
  unfold pack_Taker_Take.f takeS
  by_cases he : e = 0
  · subst he
    rw [if_pos rfl, if_pos rfl]
    have hz : pack_size.f n = some (decide (n = 1 ∨ n = 2 ∨ n = 4 ∨ n = 8)) := by
      unfold pack_size.f
      by_cases h1 : n = 1 <;> by_cases h2 : n = 2 <;> by_cases h4 : n = 4 <;> by_cases h8 : n = 8 <;> simp [h1, h2, h4, h8]
    rw [hz]
    simp only [Option.bind_some]
    by_cases hn : n = 1 ∨ n = 2 ∨ n = 4 ∨ n = 8
    · rw [if_pos hn, decide_eq_true hn]
      simp only [pack_Taker_Take.j0, pack_Taker_Take.j1, Bool.not_true]
      rw [if_neg (by decide)]
      unfold pack_Taker_bytes.f
      rw [if_pos rfl]
      by_cases hl : (s.size : Int) < n
      · rw [if_pos hl, if_pos hl]; rfl
      · have hg : ¬ (n > (s.size : Int)) := hl
        have h0 : 0 ≤ n := by omega
        have h1 : n ≤ (s.size : Int) := by omega
        rw [if_neg hg, if_neg hl, if_pos h0, if_pos h1]
        simp only [Option.bind_some, if_true]
        have hsz : (s.extract 0 n.toNat).size = n.toNat := by rw [ByteArray.size_extract]; omega
        have h := take_loop (s.extract 0 n.toNat) (s.extract n.toNat s.size) 0 (by omega) n.toNat (17 - n.toNat) 0 0 (by omega) (by omega) (by decide)
        rw [show 17 - n.toNat + n.toNat + 1 = 18 from by omega] at h
        exact h
    · rw [if_neg hn, decide_eq_false hn]
      simp [pack_Taker_Take.j0, pack_Taker_Take.j1, pack_Taker_bytes.f]
  · rw [if_neg he, if_neg he]
    simp [pack_Taker_Take.j0, pack_Taker_Take.j1, pack_Taker_bytes.f, he]

theorem valL_bd (xs : List Int) : ∀ v : Int, 0 ≤ v → (∀ b ∈ xs, 0 ≤ b ∧ b < 256) → 0 ≤ valL xs v ∧ valL xs v < (v + 1) * ((256 ^ xs.length : Nat) : Int) := by
  induction xs with
  | nil => intro v h0 _; exact ⟨h0, by simp [valL]; omega⟩
  | cons b xs ih =>
    intro v h0 hb
    obtain ⟨b0, b1⟩ := hb b List.mem_cons_self
    obtain ⟨g0, g1⟩ := ih (v * 256 + b) (by omega) (fun c hc => hb c (List.mem_cons_of_mem _ hc))
    refine ⟨g0, Int.lt_of_lt_of_le g1 ?_⟩
    rw [List.length_cons, Nat.pow_succ, Nat.mul_comm, Int.natCast_mul, ← Int.mul_assoc]
    exact Int.mul_le_mul_of_nonneg_right (by omega) (Int.natCast_nonneg _)
/-- What comes of a take: an error leaves all as it was. -/
theorem take_cases (s : ByteArray) (e n : Int) (hn : n = 1 ∨ n = 2) : ∃ v s' e', takeS s e n = (v, s', e') ∧ 0 ≤ v ∧ v < 65536 ∧ (e' = 0 → e = 0) ∧ (e' ≠ 0 → s' = s ∧ v = 0) := by
  by_cases he : e = 0
  · by_cases hl : (s.size : Int) < n
    · exact ⟨0, s, 1, by unfold takeS; rw [if_pos he, if_pos (by omega), if_pos hl], by omega, by omega, fun h => by omega, fun _ => ⟨rfl, rfl⟩⟩
    · have hsz : (s.extract 0 n.toNat).size = n.toNat := by rw [ByteArray.size_extract]; omega
      have hbd := valL_bd (bytesOf (s.extract 0 n.toNat)) 0 (by omega) (bytes_bd _)
      rw [bytes_len, hsz] at hbd
      refine ⟨_, _, 0, by unfold takeS; rw [if_pos he, if_pos (by omega), if_neg hl], hbd.1, Int.lt_of_lt_of_le hbd.2 ?_, fun _ => he, fun h => absurd rfl h⟩
      rcases hn with rfl | rfl <;> decide
  · exact ⟨0, s, e, by unfold takeS; rw [if_neg he], by omega, by omega, fun h => h, fun _ => ⟨rfl, rfl⟩⟩
/-- What comes of a text. -/
theorem text_some (s : ByteArray) (e : Int) : ∃ t s'' e'', pack_Taker_Text.f 20 s e = some (t, s'', e'') := by
  obtain ⟨v, s', e', h, h0, h1, _, h2⟩ := take_cases s e 2 (.inr rfl)
  have hw : wrap64 v = v := i64_id (by omega) (by omega)
  unfold pack_Taker_Text.f
  rw [take_is, h]
  simp only [Option.bind_some]
  rw [hw]
  by_cases he : e' = 0
  · subst he
    by_cases hv : v > 4096
    · rw [if_pos hv]
      refine ⟨⟨#[]⟩, s, 2, ?_⟩
      simp [pack_Taker_back.f, pack_Taker_bytes.f]
    · rw [if_neg hv]
      unfold pack_Taker_bytes.f
      rw [if_pos rfl]
      by_cases hl : (s'.size : Int) < v
      · have hg : v > (s'.size : Int) := hl
        rw [if_pos hg]
        exact ⟨_, _, _, rfl⟩
      · have hg : ¬ v > (s'.size : Int) := hl
        have hle : v ≤ (s'.size : Int) := by omega
        rw [if_neg hg]
        simp only [if_pos h0, if_pos hle]
        exact ⟨_, _, _, rfl⟩
  · obtain ⟨rfl, rfl⟩ := h2 he
    rw [if_neg (by omega)]
    unfold pack_Taker_bytes.f
    rw [if_neg he]
    exact ⟨_, _, _, rfl⟩
theorem more {α : Type} {g : Nat → Option α} (h : ∀ k, LeO (g k) (g (k + 1))) {r : α} (hr : g 20 = some r) (k : Nat) (hk : 20 ≤ k) : g k = some r := at_rounds h hk hr
end Go.Proofs.YtpmbdcljphpcnaaDoor.Pure
