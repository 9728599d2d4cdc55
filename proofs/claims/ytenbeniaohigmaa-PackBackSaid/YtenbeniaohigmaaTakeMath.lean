/- Plain lemmas on taking numbers from the left (layer 2): the program's Taker. No conditions beside those stated. -/
import Derived.Test.YtenbeniaohigmaaPackMath
import Derived.Test.YtenbeniaohigmaaGPackx4
namespace Go.Proofs.Ytenbeniaohigmaa.Pure
open Go.RowKit Go.Proofs.Ytenbeniaohigmaa.GPack Go.Proofs.YtenbeniaohigmaaW.PrintWords Go.Proofs.YtenbeniaohigmaaW.PrintLast Go.Proofs.YtenbeniaohigmaaW.PrintMore

/-- A number of bytes, the greatest first, behind what came ahead. -/
def valL (xs : List Int) (v : Int) : Int := xs.foldl (fun v b => v * 256 + b) v
theorem bytes_bd (x : ByteArray) : ∀ b ∈ bytesOf x, 0 ≤ b ∧ b < 256 := by
  intro b hb
  simp only [bytesOf, List.mem_map] at hb
  obtain ⟨c, _, rfl⟩ := hb
  have := c.toNat_lt
  omega
theorem bytes_len (x : ByteArray) : (bytesOf x).length = x.size := by
  show (List.map _ x.data.toList).length = x.data.size
  rw [List.length_map, Array.length_toList]
theorem bytes_strOfNums (x : ByteArray) : strOfNums (bytesOf x) = x := by
  apply ByteArray.ext
  simp [strOfNums, bytesOf, Function.comp_def]
theorem bt_drop (x : ByteArray) (i : Nat) (h : i < x.size) : (bytesOf x).drop i = bt x i :: (bytesOf x).drop (i + 1) := by
  rw [List.drop_eq_getElem_cons (by rw [bytes_len]; exact h)]
  congr 1
  simp only [bytesOf, List.getElem_map, bt, Int.toNat_natCast, dif_pos h]
  rfl
theorem or_byte {x b : Int} (h0 : 0 ≤ x) (hx : x % 256 = 0) (h1 : x < 18446744073709551616) (hb0 : 0 ≤ b) (hb : b < 256) : Go.bits .or .u64 x b = x + b :=
  bits_join .u64 64 (by decide) (fun n h0 h1 => u64_id h0 (by omega)) 8 x b h0 hx h1 hb0 hb (by omega)
theorem bt_bd (x : ByteArray) (i : Int) : 0 ≤ bt x i ∧ bt x i < 256 := by
  unfold bt
  split
  · have := (x[i.toNat]).toNat_lt
    omega
  · omega
theorem take_loop (x rest : ByteArray) (e : Int) (hx : x.size ≤ 8) (d : Nat) : ∀ (k i : Nat) (v : Int), i + d = x.size → 0 ≤ v → v < ((256 ^ i : Nat) : Int) →
    pack_Taker_Take.l0 (k + d + 1) x v x.size i rest e = some (valL ((bytesOf x).drop i) v, rest, e) := by
  induction d with
  | zero =>
    intro k i v hi _ _
    rw [pack_Taker_Take.l0, if_neg (by omega), List.drop_of_length_le (by rw [bytes_len]; omega)]
    rfl
  | succ d ih =>
    intro k i v hi h0 h1
    obtain ⟨hb0, hb1⟩ := bt_bd x i
    have hp : 256 ^ i ≤ 256 ^ 7 := Nat.pow_le_pow_right (by omega) (by omega)
    have hv : v * 256 < 18446744073709551616 := by omega
    rw [show k + (d + 1) + 1 = (k + d + 1) + 1 from by omega]
    rw [pack_Taker_Take.l0, if_pos (by omega), if_pos (by omega), if_pos (by omega), u64_id (x := v * 256) (by omega) (by omega), u64_id (x := bt x i) hb0 (by omega), or_byte (by omega) (by omega) hv hb0 hb1, i64_id (by omega) (by omega)]
    have := ih k (i + 1) (v * 256 + bt x i) (by omega) (by omega) (by rw [Nat.pow_succ]; omega)
    rw [show ((i : Int) + 1) = ((i + 1 : Nat) : Int) from by omega, this, bt_drop x i (by omega)]
    rfl
/-- What a Taker takes: the number, what is left, the error. -/
def takeS (s : ByteArray) (e n : Int) : Int × ByteArray × Int :=
  if e = 0 then
    if n = 1 ∨ n = 2 ∨ n = 4 ∨ n = 8 then
      if (s.size : Int) < n then (0, s, 1) else (valL (bytesOf (s.extract 0 n.toNat)) 0, s.extract n.toNat s.size, 0)
    else (0, s, 7)
  else (0, s, e)
theorem take_is (s : ByteArray) (e n : Int) : pack_Taker_Take.f 20 s e n = some (takeS s e n) := by
  unfold pack_Taker_Take.f takeS
  by_cases he : e = 0
  · subst he
    rw [if_pos rfl, if_pos rfl]
    have hz : pack_size.f n = some (decide (n = 1 ∨ n = 2 ∨ n = 4 ∨ n = 8)) := by
      unfold pack_size.f
      by_cases h1 : n = 1 <;> by_cases h2 : n = 2 <;> by_cases h4 : n = 4 <;> by_cases h8 : n = 8 <;> simp [h1, h2, h4, h8]
    rw [hz]
    simp only [Option.bind_some]
    by_cases hn : n = 1 ∨ n = 2 ∨ n = 4 ∨ n = 8
    · rw [if_pos hn, decide_eq_true hn]
      simp only [pack_Taker_Take.j0, pack_Taker_Take.j1, Bool.not_true]
      rw [if_neg (by decide)]
      unfold pack_Taker_bytes.f
      rw [if_pos rfl]
      by_cases hl : (s.size : Int) < n
      · rw [if_pos hl, if_pos hl]; rfl
      · have hg : ¬ (n > (s.size : Int)) := hl
        have h0 : 0 ≤ n := by omega
        have h1 : n ≤ (s.size : Int) := by omega
        rw [if_neg hg, if_neg hl, if_pos h0, if_pos h1]
        simp only [Option.bind_some, if_true]
        have hsz : (s.extract 0 n.toNat).size = n.toNat := by rw [ByteArray.size_extract]; omega
        have h := take_loop (s.extract 0 n.toNat) (s.extract n.toNat s.size) 0 (by omega) n.toNat (17 - n.toNat) 0 0 (by omega) (by omega) (by decide)
        rw [show 17 - n.toNat + n.toNat + 1 = 18 from by omega] at h
        exact h
    · rw [if_neg hn, decide_eq_false hn]
      simp [pack_Taker_Take.j0, pack_Taker_Take.j1, pack_Taker_bytes.f]
  · rw [if_neg he, if_neg he]
    simp [pack_Taker_Take.j0, pack_Taker_Take.j1, pack_Taker_bytes.f, he]
/-- What was put ahead is taken. -/
theorem take_ahead (xs : List Int) (s : ByteArray) (n : Nat) (hn : n = 1 ∨ n = 2 ∨ n = 4 ∨ n = 8) (hl : xs.length = n) (hb : ∀ b ∈ xs, 0 ≤ b ∧ b < 256) : takeS (strOfNums xs ++ s) 0 n = (valL xs 0, s, 0) := by
  unfold takeS
  have hz : (strOfNums xs).size = n := by rw [strOfNums_size, hl]
  rw [if_pos rfl, if_pos (by omega), if_neg (by rw [ByteArray.size_append]; omega)]
  have e1 : (strOfNums xs ++ s).extract 0 n = strOfNums xs := ByteArray.extract_append_eq_left hz.symm
  have e2 : (strOfNums xs ++ s).extract n (strOfNums xs ++ s).size = s := ByteArray.extract_append_eq_right hz.symm (by rw [ByteArray.size_append])
  have e3 : bytesOf (strOfNums xs) = xs := by
    simp only [bytesOf, strOfNums_data, List.map_map]
    apply List.ext_getElem (by simp)
    intro i h1 h2
    obtain ⟨g0, g1⟩ := hb _ (List.getElem_mem h2)
    simp [Function.comp_def]
    omega
  rw [Int.toNat_natCast, e1, e2, e3]
theorem beL_bd (n : Nat) : ∀ v : Int, ∀ b ∈ beL n v, 0 ≤ b ∧ b < 256 := by
  induction n with
  | zero => intro v b hb; simp [beL] at hb
  | succ n ih =>
    intro v b hb
    simp only [beL, List.mem_append, List.mem_singleton] at hb
    rcases hb with hb | rfl
    · exact ih _ b hb
    · omega
theorem beL_len (n : Nat) : ∀ v : Int, (beL n v).length = n := by
  induction n with
  | zero => intro v; rfl
  | succ n ih => intro v; simp [beL, ih]
theorem valL_app (xs ys : List Int) (v : Int) : valL (xs ++ ys) v = valL ys (valL xs v) := by simp [valL]
theorem val_beL (n : Nat) : ∀ v a : Int, valL (beL n v) a = a * 256 ^ n + v % 256 ^ n := by
  induction n with
  | zero => intro v a; simp [beL, valL, Int.emod_one]
  | succ n ih =>
    intro v a
    rw [beL, valL_app, ih]
    have h : v % 256 ^ (n + 1) = (v / 256) % 256 ^ n * 256 + v % 256 := by
      rw [Int.pow_succ, Int.mul_comm (256 ^ n) 256, Int.emod_def v (256 * 256 ^ n), Int.emod_def (v / 256), ← Int.ediv_ediv_of_nonneg (show (0 : Int) ≤ 256 by omega), Int.mul_assoc]
      generalize (256 : Int) ^ n * (v / 256 / 256 ^ n) = p
      omega
    rw [h]
    simp only [valL, List.foldl_cons, List.foldl_nil, Int.pow_succ]
    rw [Int.add_mul, Int.mul_assoc]
    omega
theorem take_put (n : Nat) (v : Int) (s : ByteArray) (hn : n = 1 ∨ n = 2 ∨ n = 4 ∨ n = 8) : takeS (strOfNums (beL n v) ++ s) 0 n = (v % 256 ^ n, s, 0) := by
  rw [take_ahead _ _ n hn (beL_len n v) (beL_bd n v), val_beL]
  simp
end Go.Proofs.Ytenbeniaohigmaa.Pure
