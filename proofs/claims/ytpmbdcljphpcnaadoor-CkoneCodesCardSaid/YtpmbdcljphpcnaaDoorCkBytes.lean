/- The bytes of ckone by the document. Plain lemmas. No conditions beside those stated. -/
import Derived.Test.YtpmbdcljphpcnaaDoorCkPut
import Derived.Test.YtpmbdcljphpcnaaDoorGCkx13
import Derived.Test.YtpmbdcljphpcnaaDoorGCkx12
namespace Go.Proofs.YtpmbdcljphpcnaaDoor.Pure
open Go.RowKit Go.Proofs.YtpmbdcljphpcnaaDoor.GCk Go.Proofs.YtpmbdcljphpcnaaDoorW.PrintWords Go.Proofs.YtpmbdcljphpcnaaDoorW.PrintLast Go.Proofs.YtpmbdcljphpcnaaDoorW.PrintMore

theorem strOfNums_append (xs ys : List Int) : strOfNums xs ++ strOfNums ys = strOfNums (xs ++ ys) := by
  apply ByteArray.ext
  simp [strOfNums]
/-- A quotient by 256 of a number of 64 bits. -/
theorem quo {v : Int} (h0 : 0 ≤ v) (h1 : v < 18446744073709551616) : IntKind.u64.wrap (Int.tdiv v 256) = v / 256 := by
  rw [Int.tdiv_eq_ediv_of_nonneg h0]
  exact u64_id (by omega) (by omega)
theorem rest {v : Int} (h0 : 0 ≤ v) : Int.tmod v 256 % 256 = v % 256 := by
  rw [Int.tmod_eq_emod_of_nonneg h0]; omega
/-- One round of the reference's loop. -/
theorem ref_round (k : Nat) (n v : Int) (s : ByteArray) (i : Int) (h0 : 0 ≤ v) (h1 : v < 18446744073709551616) (hi : i < n) (h2 : 0 ≤ i) (hn : n ≤ 8) (hs : s.size ≤ 100) :
    bosunref02_Put.l0 (k + 1) n v s i = bosunref02_Put.l0 k n (v / 256) (strOfNums [v % 256] ++ s) (i + 1) := by
  simp only [bosunref02_Put.l0]
  rw [if_pos hi, quo h0 h1, rest h0, i64_id (by omega) (by omega)]
  simp only [Option.bind_some]
  rw [if_pos (by rw [strNums_size]; simp; omega)]
theorem ref_end (k : Nat) (n v : Int) (s : ByteArray) : bosunref02_Put.l0 (k + 1) n v s n = some s := by
  simp only [bosunref02_Put.l0]
  rw [if_neg (by omega)]
theorem ref_rounds (d : Nat) : ∀ (k : Nat) (n v : Int) (xs : List Int), 0 ≤ v → v < 18446744073709551616 → (d : Int) ≤ n → n ≤ 8 → xs.length ≤ 90 - d →
    bosunref02_Put.l0 (k + d + 1) n v (strOfNums xs) (n - d) = some (strOfNums (beL d v ++ xs)) := by
  induction d with
  | zero => intro k n v xs _ _ _ _ _; simpa [beL] using ref_end k n v (strOfNums xs)
  | succ d ih =>
    intro k n v xs h0 h1 hd hn hx
    rw [show k + (d + 1) + 1 = (k + d + 1) + 1 from by omega, ref_round _ _ _ _ _ h0 h1 (by omega) (by omega) hn (by rw [strNums_size]; omega), strOfNums_append, show n - ((d + 1 : Nat) : Int) + 1 = n - (d : Nat) from by omega]
    rw [ih k n (v / 256) ([v % 256] ++ xs) (by omega) (by omega) (by omega) hn (by simp; omega)]
    simp [beL]
theorem rput (k : Nat) (n : Nat) (v : Int) (h0 : 0 ≤ v) (h1 : v < 18446744073709551616) (hn : n = 1 ∨ n = 2 ∨ n = 4 ∨ n = 8) : bosunref02_Put.f (k + 10) n v = some (strOfNums (beL n v)) := by
  have e : bosunref02_Put.l0 (k + 9) n v (⟨#[]⟩ : ByteArray) 0 = some (strOfNums (beL n v)) := by
    have h := ref_rounds n (k + 8 - n) n v [] h0 h1 (by omega) (by omega) (by simp)
    rw [show k + 8 - n + n + 1 = k + 9 from by omega] at h
    have h' : bosunref02_Put.l0 (k + 9) n v (strOfNums []) 0 = some (strOfNums (beL n v)) := by simpa using h
    exact h'
  rcases hn with rfl | rfl | rfl | rfl <;> simp only [bosunref02_Put.f, bosunref02_Put.j0] <;> simpa using e
theorem rtext (k : Nat) (s : ByteArray) (hs : s.size ≤ 4096) : bosunref02_Text.f (k + 10) s = some (strOfNums (beL 2 s.size) ++ s) := by
  unfold bosunref02_Text.f
  rw [u64_id (by omega) (by omega)]
  have h2 : bosunref02_Put.f (k + 10) 2 s.size = some (strOfNums (beL 2 s.size)) := rput k 2 s.size (by omega) (by omega) (by simp)
  rw [h2]
  simp only [Option.bind_some]
  rw [if_pos (by rw [strNums_size]; simp [beL]; omega)]
theorem bytes_loop (l : List S66) (a : Int) (hl : l.length ≤ 20000) (hf : ∀ p ∈ l, Fits p ∧ Byte p) : ∀ (m i k : Nat) (acc : ByteArray), i + m = l.length → acc.size + 13000 * m ≤ 1000000000 → m + 20 < k →
    bosunref17_Bytes.l0 k acc (i : Int) a (l.map toR) = some (acc ++ podsB (l.drop i))
  | 0, i, k, acc, h, ha, hk => by
    obtain ⟨k, rfl⟩ : ∃ k', k = k' + 1 := ⟨k - 1, by omega⟩
    rw [bosunref17_Bytes.l0, if_neg (by rw [List.length_map]; omega), List.drop_eq_nil_of_le (by omega), podsB, show acc ++ (⟨#[]⟩ : ByteArray) = acc from ByteArray.append_empty]
  | m + 1, i, k, acc, h, ha, hk => by
    obtain ⟨k, rfl⟩ : ∃ k', k = k' + 10 + 1 := ⟨k - 11, by omega⟩
    have hi : i < l.length := by omega
    obtain ⟨⟨f0, f1, f2⟩, b0, b1⟩ := hf l[i] (List.getElem_mem hi)
    have hw : wrap64 ((i : Int) + 1) = ((i + 1 : Nat) : Int) := by rw [i64_id (by omega) (by omega)]; omega
    have t0 := rtext k l[i].f0 f0
    have t1 := rtext k l[i].f1 f1
    have t2 := rtext k l[i].f2 f2
    have e3 : strOfNums [l[i].f3] = strOfNums (beL 1 l[i].f3) := by
      have : l[i].f3 % 256 = l[i].f3 := by omega
      simp [beL, this]
    rw [bosunref17_Bytes.l0, if_pos (by rw [List.length_map]; omega), if_pos (by omega), rd67 l i hi]
    show (bosunref02_Text.f (k + 10) l[i].f0).bind _ = _
    rw [t0, Option.bind_some, if_pos (by simp only [ByteArray.size_append, strNums_size, beL_len]; omega)]
    show (bosunref02_Text.f (k + 10) l[i].f1).bind _ = _
    rw [t1, Option.bind_some, if_pos (by simp only [ByteArray.size_append, strNums_size, beL_len]; omega)]
    show (bosunref02_Text.f (k + 10) l[i].f2).bind _ = _
    rw [t2, Option.bind_some, if_pos (by simp only [ByteArray.size_append, strNums_size, beL_len]; omega), Option.bind_some]
    show (if (acc ++ (strOfNums (beL 2 l[i].f0.size) ++ l[i].f0) ++ (strOfNums (beL 2 l[i].f1.size) ++ l[i].f1) ++ (strOfNums (beL 2 l[i].f2.size) ++ l[i].f2)).size + (strOfNums [l[i].f3]).size ≤ 9223372036854775807 then _ else none) = _
    rw [if_pos (by simp only [ByteArray.size_append, strNums_size, beL_len, List.length_singleton]; omega), hw]
    have ea : acc ++ (strOfNums (beL 2 l[i].f0.size) ++ l[i].f0) ++ (strOfNums (beL 2 l[i].f1.size) ++ l[i].f1) ++ (strOfNums (beL 2 l[i].f2.size) ++ l[i].f2) ++ strOfNums [l[i].f3] = acc ++ podB l[i] := by
      rw [e3, podB, txt, txt, txt]; simp only [ByteArray.append_assoc]
    refine (congrArg (fun x => bosunref17_Bytes.l0 (k + 10) x ((i + 1 : Nat) : Int) a (l.map toR)) ea).trans ?_
    refine (bytes_loop l a hl hf m (i + 1) (k + 10) (acc ++ podB l[i]) (by omega) (by rw [podB]; simp only [ByteArray.size_append, txt_size, nums1_size]; omega) (by omega)).trans ?_
    rw [List.drop_eq_getElem_cons hi, podsB, ByteArray.append_assoc]
theorem bytes_is (l : List S66) (a : Int) (ha : 0 ≤ a) (ha2 : a < 4294967296) (hl : l.length ≤ 20000) (hf : ∀ p ∈ l, Fits p ∧ Byte p) (k : Nat) (hk : l.length + 50 < k) : bosunref17_Bytes.f k a (l.map toR) = some (stateB a l) := by
  obtain ⟨k, rfl⟩ : ∃ k', k = k' + 10 := ⟨k - 10, by omega⟩
  have w1 : IntKind.u64.wrap a = a := u64_id ha (by omega)
  have w2 : IntKind.u64.wrap (l.length : Int) = l.length := u64_id (by omega) (by omega)
  have p4 : bosunref02_Put.f (k + 10) 4 a = some (strOfNums (beL 4 a)) := rput k 4 a ha (by omega) (by simp)
  have p2 : bosunref02_Put.f (k + 10) 2 (l.length : Int) = some (strOfNums (beL 2 l.length)) := rput k 2 l.length (by omega) (by omega) (by simp)
  rw [bosunref17_Bytes.f, List.length_map, w1, w2, p4, Option.bind_some, p2, Option.bind_some, if_pos (by simp only [strNums_size, beL_len]; omega)]
  have := bytes_loop l a hl hf l.length 0 (k + 10) (strOfNums (beL 4 a) ++ strOfNums (beL 2 l.length)) (by omega) (by simp only [ByteArray.size_append, strNums_size, beL_len]; omega) (by omega)
  rw [List.drop_zero, ByteArray.append_assoc] at this
  rw [stateB]
  exact this
end Go.Proofs.YtpmbdcljphpcnaaDoor.Pure
