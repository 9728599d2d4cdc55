/- UtfBack, the pure statement: a text, quoted, whatever is behind, is unquoted as it was, if it isn't too long; for every input. -/
import Derived.Test.YtenbeniaohigmaaDoorUtQuote
import Derived.Test.YtenbeniaohigmaaDoorGUtUtfBackS
namespace Go.Proofs.YtenbeniaohigmaaDoor.Pure
open Go.RowKit Go.Proofs.YtenbeniaohigmaaDoor.GUt Go.Proofs.YtenbeniaohigmaaDoorW.PrintWords Go.Proofs.YtenbeniaohigmaaDoorW.PrintLast Go.Proofs.YtenbeniaohigmaaDoorW.PrintMore

theorem bt_right (a b : ByteArray) (j : Nat) : bt (a ++ b) ((a.size + j : Nat) : Int) = bt b (j : Int) := by
  unfold bt
  by_cases h : j < b.size
  · rw [dif_pos (show ((a.size + j : Nat) : Int).toNat < (a ++ b).size by rw [ByteArray.size_append]; omega), dif_pos (show ((j : Nat) : Int).toNat < b.size by omega)]
    have e : ∀ (x : Nat) (hx : x < (a ++ b).size) (y : Nat) (hy : y < b.size), x = a.size + y → (a ++ b)[x]'hx = b[y]'hy := by
      intro x hx y hy hxy
      subst hxy
      rw [ByteArray.getElem_append_right (a := a) (b := b) (i := a.size + y) (h := hx) (Nat.le_add_right _ _)]
      simp
    exact congrArg (fun c : UInt8 => (c.toNat : Int)) (e _ (by rw [ByteArray.size_append]; omega) _ (by omega) (by omega))
  · rw [dif_neg (by rw [ByteArray.size_append]; omega), dif_neg (by omega)]
theorem bt_left (a b : ByteArray) (j : Nat) (h : j < a.size) : bt (a ++ b) (j : Int) = bt a (j : Int) := by
  unfold bt
  rw [dif_pos (show ((j : Nat) : Int).toNat < (a ++ b).size by rw [ByteArray.size_append]; omega), dif_pos (show ((j : Nat) : Int).toNat < a.size by omega)]
  rw [ByteArray.getElem_append_left]
theorem bt_nums (xs : List Int) (j : Nat) (h : j < xs.length) (hx : ∀ x ∈ xs, 0 ≤ x ∧ x < 256) : bt (strOfNums xs) (j : Int) = xs[j] := by
  have hm := hx _ (List.getElem_mem h)
  have hs := nums_len xs
  unfold bt
  rw [dif_pos (by omega)]
  show (((strOfNums xs).data[((j : Nat) : Int).toNat]'_).toNat : Int) = _
  simp only [strOfNums, Int.toNat_natCast]
  simp
  omega
theorem ext_mid (a b c : ByteArray) : (a ++ (b ++ c)).extract a.size (a.size + b.size) = b := by
  apply ByteArray.ext
  apply Array.ext'
  rw [ByteArray.data_extract, Array.toList_extract]
  have hd : (a ++ (b ++ c)).data.toList = a.data.toList ++ (b.data.toList ++ c.data.toList) := by simp
  rw [hd]
  show (List.drop a.size (a.data.toList ++ (b.data.toList ++ c.data.toList))).take (a.size + b.size - a.size) = _
  rw [List.drop_left' (by rw [Array.length_toList]; rfl), List.take_left' (by rw [Array.length_toList]; show b.size = _; omega)]
theorem ext_join (s : ByteArray) (i j : Nat) (h : i ≤ j) (hj : j ≤ s.size) : s.extract 0 i ++ s.extract i j = s.extract 0 j := by
  rw [ByteArray.extract_append_extract]
  congr 1 <;> omega
theorem ext_one (s : ByteArray) (i : Nat) (h : i < s.size) : s.extract i (i + 1) = strOfNums [bt s i] := by
  apply ByteArray.ext
  apply Array.ext'
  rw [ByteArray.data_extract, Array.toList_extract]
  have hl : i < s.data.toList.length := by rw [Array.length_toList]; exact h
  show (s.data.toList.drop i).take (i + 1 - i) = _
  rw [List.drop_eq_getElem_cons hl, show i + 1 - i = 0 + 1 by omega, List.take_succ_cons, List.take_zero]
  simp only [strOfNums, bt, Int.toNat_natCast, dif_pos h]
  simp
  rfl
theorem ext_all (s : ByteArray) : s.extract 0 s.size = s := ByteArray.extract_zero_size
theorem charN_hi (s : ByteArray) (i : Nat) (w : Nat) (hw : charN s i = w) (h2 : 2 ≤ w) : ∀ j, j < w → 128 ≤ bt s ((i + j : Nat) : Int) := by
  unfold charN okB at hw
  simp only [Bool.and_eq_true, decide_eq_true_eq] at hw
  intro j hj
  have c : j = 0 ∨ j = 1 ∨ j = 2 ∨ j = 3 := by
    repeat' split at hw
    all_goals omega
  have l1 : ∀ a : Int, 128 ≤ (if bt s i = a then (160 : Int) else 128) ∧ 128 ≤ (if bt s i = a then (144 : Int) else 128) := by
    intro a
    by_cases h : bt s i = a <;> simp [h]
  have l2 := l1 224
  have l3 := l1 240
  have e0 : ((i + 0 : Nat) : Int) = (i : Int) := rfl
  repeat' split at hw
  all_goals first | omega | (rcases c with rfl | rfl | rfl | rfl <;> (try rw [e0]) <;> omega)
theorem charN_eq (s t : ByteArray) (i p w : Nat) (hw : charN s i = w) (h2 : 2 ≤ w) (hp : p + w ≤ t.size) (hb : ∀ j, j < w → bt t ((p + j : Nat) : Int) = bt s ((i + j : Nat) : Int)) : charN t p = w := by
  have e0 : bt t (p : Int) = bt s (i : Int) := hb 0 (by omega)
  have e1 : bt t ((p + 1 : Nat) : Int) = bt s ((i + 1 : Nat) : Int) := hb 1 (by omega)
  have ok : ∀ j lo hi, j < w → okB s (i + j) lo hi = true → okB t (p + j) lo hi = true := by
    intro j lo hi hj h
    unfold okB at h ⊢
    simp only [Bool.and_eq_true, decide_eq_true_eq] at h ⊢
    rw [hb j hj]
    exact ⟨by omega, h.2⟩
  unfold charN at hw ⊢
  rw [e0]
  by_cases a1 : bt s i < 128
  · rw [if_pos a1] at hw; omega
  rw [if_neg a1] at hw ⊢
  by_cases a2 : 194 ≤ bt s i ∧ bt s i ≤ 223
  · rw [if_pos a2] at hw ⊢
    by_cases c : okB s (i + 1) 128 191 = true
    · rw [if_pos c] at hw
      rw [if_pos (ok 1 _ _ (by omega) c)]
      exact hw
    · rw [if_neg c] at hw; omega
  rw [if_neg a2] at hw ⊢
  by_cases a3 : 224 ≤ bt s i ∧ bt s i ≤ 239
  · rw [if_pos a3] at hw ⊢
    by_cases c : okB s (i + 1) (if bt s i = 224 then 160 else 128) (if bt s i = 237 then 159 else 191) = true ∧ okB s (i + 2) 128 191 = true
    · rw [if_pos c] at hw
      rw [if_pos ⟨ok 1 _ _ (by omega) c.1, ok 2 _ _ (by omega) c.2⟩]
      exact hw
    · rw [if_neg c] at hw; omega
  rw [if_neg a3] at hw ⊢
  by_cases a4 : 240 ≤ bt s i ∧ bt s i ≤ 244
  · rw [if_pos a4] at hw ⊢
    by_cases c : okB s (i + 1) (if bt s i = 240 then 144 else 128) (if bt s i = 244 then 143 else 191) = true ∧ okB s (i + 2) 128 191 = true ∧ okB s (i + 3) 128 191 = true
    · rw [if_pos c] at hw
      rw [if_pos ⟨ok 1 _ _ (by omega) c.1, ok 2 _ _ (by omega) c.2.1, ok 3 _ _ (by omega) c.2.2⟩]
      exact hw
    · rw [if_neg c] at hw; omega
  rw [if_neg a4] at hw
  omega
theorem quote_high (b : Int) (h : 128 ≤ b) : quoteI b = [b] := by
  unfold quoteI shortI
  rw [if_neg (show ¬ b = 34 by omega), if_neg (show ¬ b = 92 by omega), if_neg (show ¬ b = 10 by omega), if_neg (show ¬ b = 13 by omega), if_neg (show ¬ b = 9 by omega), if_neg (show ¬ b = 8 by omega), if_neg (show ¬ b = 12 by omega), if_neg (by decide), if_neg (by omega)]
/-- Bytes from 128 on are quoted as they stand. -/
theorem quote_copy (s : ByteArray) : ∀ (w i m : Nat), w ≤ m → i + m = s.size → (∀ j, j < w → 128 ≤ bt s ((i + j : Nat) : Int)) → quoteR s m i = s.extract i (i + w) ++ quoteR s (m - w) (i + w)
  | 0, i, m, _, _, _ => by
    have : s.extract i (i + 0) = ⟨#[]⟩ := by
      apply ByteArray.ext
      rw [ByteArray.data_extract]
      simp
      omega
    rw [this, Nat.add_zero, Nat.sub_zero, show (⟨#[]⟩ : ByteArray) ++ quoteR s m i = quoteR s m i from ByteArray.empty_append]
  | w + 1, i, m, hm, hs, hb => by
    obtain ⟨m, rfl⟩ : ∃ m', m = m' + 1 := ⟨m - 1, by omega⟩
    have ih := quote_copy s w (i + 1) m (by omega) (by omega) (fun j hj => by
      have := hb (j + 1) (by omega)
      rw [show i + 1 + j = i + (j + 1) by omega]
      exact this)
    have e : s.extract i (i + (w + 1)) = s.extract i (i + 1) ++ s.extract (i + 1) (i + 1 + w) := by
      rw [ByteArray.extract_append_extract]
      congr 1 <;> omega
    have h0 : quoteI (bt s i) = [bt s i] := quote_high _ (hb 0 (by omega))
    rw [quoteR, h0, ih, e, ext_one s i (by omega), ByteArray.append_assoc, show m + 1 - (w + 1) = m - w by omega, show i + 1 + w = i + (w + 1) by omega]
/-- Four digits. -/
def hexN : List Int → Int → Option Int
  | [], v => some v
  | b :: l, v => (utf_lower.f b).bind fun b => (strings_IndexByte.f digT b).bind fun d => if d < 0 then none else hexN l (wrap32 (wrap32 (16 * v) + wrap32 d))
theorem hexF_is (t : ByteArray) : ∀ (l : List Int) (p : Nat) (v : Int), p + l.length ≤ t.size → (∀ j (h : j < l.length), bt t ((p + j : Nat) : Int) = l[j]) → hexF t l.length p v = hexN l v
  | [], _, _, _, _ => rfl
  | b :: l, p, v, hp, hb => by
    rw [List.length_cons] at hp
    have h0 := hb 0 (by simp)
    rw [List.length_cons, hexF, if_pos (by omega), hexN, show bt t (p : Int) = b from h0]
    congr 1
    funext x
    congr 1
    funext d
    rw [hexF_is t l (p + 1) _ (by omega) (fun j hj => by
      have := hb (j + 1) (by rw [List.length_cons]; omega)
      rw [show p + 1 + j = p + (j + 1) by omega]
      exact this)]
theorem hex32 : ∀ b : Fin 32, hexN [48, 48, bt digT (((b.val : Nat) : Int) / 16), bt digT (((b.val : Nat) : Int) % 16)] 0 = some ((b.val : Nat) : Int) := by decide +kernel
theorem esc_short : ∀ b : Fin 128, shortI ((b.val : Nat) : Int) ≠ 0 → escB (shortI ((b.val : Nat) : Int)) = some ((b.val : Nat) : Int) ∧ shortI ((b.val : Nat) : Int) ≠ 117 := by decide +kernel
/-- The answer. -/
def ans (s : ByteArray) (m : Nat) : ByteArray × Int × Int := if s.size > 4096 then (⟨#[]⟩, 0, 2) else (s, (m : Int), 0)
theorem unq_loop (s behind t : ByteArray) (hs : s.size ≤ 6000) (ht : t.size ≤ 1000000) : ∀ (n i k : Nat) (pre : ByteArray), i ≤ s.size → s.size - i ≤ n → chain s n i = true → t = pre ++ (quoteR s (s.size - i) i ++ behind) → n + 1 < k →
    unqL t k pre.size (s.extract 0 i) = some (ans s (t.size - behind.size)) := by
  have fin : ∀ (k : Nat) (pre : ByteArray), t = pre ++ (quoteR s 0 s.size ++ behind) → 1 < k → unqL t k pre.size (s.extract 0 s.size) = some (ans s (t.size - behind.size)) := by
    intro k pre e hk
    obtain ⟨k, rfl⟩ : ∃ j, k = j + 1 := ⟨k - 1, by omega⟩
    rw [quoteR] at e
    have hz : t.size = pre.size + (1 + behind.size) := by rw [e, ByteArray.size_append, ByteArray.size_append, nums_len]; rfl
    have hb : bt t (pre.size : Int) = 34 := by
      rw [e]
      have := bt_right pre (strOfNums [34] ++ behind) 0
      rw [Nat.add_zero] at this
      rw [this, bt_left _ _ 0 (by rw [nums_len]; decide)]
      rfl
    rw [unqL, if_pos (by omega), if_pos hb, ext_all, ans]
    by_cases h : s.size > 4096
    · rw [if_pos h, if_pos h]
    · rw [if_neg h, if_neg h, show t.size - behind.size = pre.size + 1 by omega]
      rfl
  intro n
  induction n with
  | zero =>
    intro i k pre hi hn hc e hk
    obtain rfl : i = s.size := by omega
    rw [Nat.sub_self] at e
    exact fin k pre e (by omega)
  | succ n ih =>
    intro i k pre hi hn hc e hk
    by_cases h : i < s.size
    · obtain ⟨k, rfl⟩ : ∃ j, k = j + 1 := ⟨k - 1, by omega⟩
      rw [chain, if_pos h] at hc
      have h0 : charN s i ≠ 0 := fun q => by rw [if_pos q] at hc; cases hc
      rw [if_neg h0] at hc
      have hf := charN_fit s i h
      have hr := bt_range s i
      have osz : (s.extract 0 i).size ≤ 1000000000 := by rw [ByteArray.size_extract]; omega
      -- one byte
      have one : charN s i = 1 → ∀ q pre', unqL t (k + 1) pre.size (s.extract 0 i) = unqL t k q (s.extract 0 i ++ strOfNums [bt s i]) → pre'.size = q → t = pre' ++ (quoteR s (s.size - (i + 1)) (i + 1) ++ behind) → unqL t (k + 1) pre.size (s.extract 0 i) = some (ans s (t.size - behind.size)) := by
        intro h1 q pre' e1 e2 e3
        rw [e1, ← e2, ← ext_one s i h, ext_join s i (i + 1) (by omega) (by omega)]
        rw [h1] at hc
        exact ih (i + 1) k pre' (by omega) (by omega) hc e3 (by omega)
      by_cases h1 : charN s i = 1
      · have hlow : bt s i < 128 := Decidable.by_contra fun hn => by
          unfold charN at h1
          rw [if_neg hn] at h1
          repeat' split at h1
          all_goals omega
        obtain ⟨m, hm⟩ : ∃ m, s.size - i = m + 1 := ⟨s.size - i - 1, by omega⟩
        rw [hm, quoteR] at e
        have hm2 : s.size - (i + 1) = m := by omega
        have hq : ∀ x ∈ quoteI (bt s i), 0 ≤ x ∧ x < 256 := by
          intro x hx
          have s1 := short_range (bt s i) hr
          have s2 := hex_range (bt s i / 16)
          have s3 := hex_range (bt s i % 16)
          unfold quoteI at hx
          repeat' split at hx
          all_goals simp only [List.mem_cons, List.mem_nil_iff, or_false] at hx
          all_goals omega
        have at_ : ∀ j (hj : j < (quoteI (bt s i)).length), bt t ((pre.size + j : Nat) : Int) = (quoteI (bt s i))[j] := by
          intro j hj
          rw [e, bt_right, ByteArray.append_assoc, bt_left _ _ j (by rw [nums_len]; exact hj), bt_nums _ j hj hq]
        have hz : pre.size + (quoteI (bt s i)).length ≤ t.size := by
          rw [e, ByteArray.size_append, ByteArray.size_append, ByteArray.size_append, nums_len]; omega
        have e' : t = (pre ++ strOfNums (quoteI (bt s i))) ++ (quoteR s (s.size - (i + 1)) (i + 1) ++ behind) := by
          rw [hm2, e]
          simp only [ByteArray.append_assoc]
        have psz : (pre ++ strOfNums (quoteI (bt s i))).size = pre.size + (quoteI (bt s i)).length := by rw [ByteArray.size_append, nums_len]
        by_cases hsh : shortI (bt s i) ≠ 0
        · have hqi : quoteI (bt s i) = [92, shortI (bt s i)] := by unfold quoteI; rw [if_pos hsh]
          rw [hqi] at at_ hz psz e'
          have b0 := at_ 0 (by simp)
          have b1 := at_ 1 (by simp)
          simp only [List.length_cons, List.length_nil] at hz psz
          obtain ⟨nb, hnb⟩ := Int.eq_ofNat_of_zero_le hr.1
          have es := esc_short ⟨nb, by omega⟩
          rw [show (((⟨nb, by omega⟩ : Fin 128).val : Nat) : Int) = bt s i from hnb.symm] at es
          obtain ⟨es1, es2⟩ := es hsh
          refine one h1 (pre.size + 2) _ ?_ psz e'
          rw [unqL, if_pos (by omega), if_neg (by rw [show bt t (pre.size : Int) = 92 from b0]; decide), if_pos (show bt t (pre.size : Int) = 92 from b0), escF, if_pos ⟨by omega, osz⟩]
          rw [show bt t ((pre.size + 1 : Nat) : Int) = shortI (bt s i) from b1, if_neg es2, es1]
          rfl
        · have hs0 : shortI (bt s i) = 0 := by omega
          by_cases h32 : bt s i < 32
          · have hqi : quoteI (bt s i) = [92, 117, 48, 48, bt digT (bt s i / 16), bt digT (bt s i % 16)] := by unfold quoteI; rw [if_neg hsh, if_pos h32]
            rw [hqi] at at_ hz psz e'
            have b0 := at_ 0 (by simp)
            have b1 := at_ 1 (by simp)
            simp only [List.length_cons, List.length_nil] at hz psz
            obtain ⟨nb, hnb⟩ := Int.eq_ofNat_of_zero_le hr.1
            have hx := hex32 ⟨nb, by omega⟩
            rw [show (((⟨nb, by omega⟩ : Fin 32).val : Nat) : Int) = bt s i from hnb.symm] at hx
            have hh := hexF_is t [48, 48, bt digT (bt s i / 16), bt digT (bt s i % 16)] (pre.size + 1 + 1) 0 (by simp only [List.length_cons, List.length_nil]; omega) (fun j hj => by
              have := at_ (j + 2) (by simp only [List.length_cons, List.length_nil] at hj ⊢; omega)
              rw [show pre.size + 1 + 1 + j = pre.size + (j + 2) by omega, this]
              rfl)
            rw [hx] at hh
            have hu : uniF t (pre.size + 1 + 1) (s.extract 0 i) = some (s.extract 0 i ++ strOfNums [bt s i]) := by
              rw [uniF, show hexF t 4 (pre.size + 1 + 1) 0 = some (bt s i) from hh, Option.bind_some, if_pos ⟨hr.1, by omega, .inl (by omega), osz⟩, runeB, Lib.encodeRuneZ_one hr.1 (by omega)]
            refine one h1 (pre.size + 6) _ ?_ psz e'
            rw [unqL, if_pos (by omega), if_neg (by rw [show bt t (pre.size : Int) = 92 from b0]; decide), if_pos (show bt t (pre.size : Int) = 92 from b0), escF, if_pos ⟨by omega, osz⟩]
            rw [show bt t ((pre.size + 1 : Nat) : Int) = 117 from b1, if_pos rfl, hu]
            rfl
          · have hqi : quoteI (bt s i) = [bt s i] := by unfold quoteI; rw [if_neg hsh, if_neg h32]
            have n34 : bt s i ≠ 34 := fun q => by rw [q] at hs0; exact absurd hs0 (by decide)
            have n92 : bt s i ≠ 92 := fun q => by rw [q] at hs0; exact absurd hs0 (by decide)
            rw [hqi] at at_ hz psz e'
            have b0 : bt t (pre.size : Int) = bt s i := at_ 0 (by simp)
            simp only [List.length_cons, List.length_nil] at hz psz
            have ct : charN t pre.size = 1 := by unfold charN; rw [b0, if_pos hlow]
            have hne : (t.extract pre.size t.size).size ≠ 0 := by rw [ByteArray.size_extract]; omega
            rcases dec_char t pre.size (by omega) with ⟨q, _⟩ | ⟨c, _, hd, hc1⟩
            · rw [ct] at q; cases q
            · rw [ct] at hd hc1
              have hc2 := hc1 rfl
              have hg : Lib.decodeGo (t.extract pre.size t.size) = (c, 1) := by rw [Lib.decodeGo, if_neg hne, hd]
              refine one h1 (pre.size + 1) _ ?_ psz e'
              rw [unqL, if_pos (by omega), if_neg (by rw [b0]; exact n34), if_neg (by rw [b0]; exact n92), if_neg (by rw [b0]; exact h32), hg, if_neg (by simp only []; omega), if_pos ⟨by simp only []; omega, osz⟩]
              simp only []
              rw [ext_one t pre.size (by omega), b0]
      · have h2 : 2 ≤ charN s i := by omega
        obtain ⟨w, hw⟩ : ∃ w, charN s i = w := ⟨_, rfl⟩
        rw [hw] at h2 hf hc h1 h0
        have hhi := charN_hi s i w hw h2
        have hcp := quote_copy s w i (s.size - i) (by omega) (by omega) hhi
        rw [hcp] at e
        have xsz : (s.extract i (i + w)).size = w := by rw [ByteArray.size_extract]; omega
        have hz : t.size = pre.size + (w + ((quoteR s (s.size - i - w) (i + w)).size + behind.size)) := by
          rw [e]; simp only [ByteArray.size_append, xsz]; omega
        have hbt : ∀ j, j < w → bt t ((pre.size + j : Nat) : Int) = bt s ((i + j : Nat) : Int) := by
          intro j hj
          rw [e, bt_right, ByteArray.append_assoc, bt_left _ _ j (by omega)]
          unfold bt
          rw [dif_pos (by omega), dif_pos (by omega)]
          have e5 : ∀ (x : Nat) (hx : x < (s.extract i (i + w)).size) (y : Nat) (hy : y < s.size), y = i + x → (s.extract i (i + w))[x]'hx = s[y]'hy := by
            intro x hx y hy hxy
            subst hxy
            exact ByteArray.getElem_extract hx
          exact congrArg (fun c : UInt8 => (c.toNat : Int)) (e5 _ _ _ _ (by omega))
        have ct := charN_eq s t i pre.size w hw h2 (by omega) hbt
        have b0 : bt t (pre.size : Int) = bt s i := hbt 0 (by omega)
        have b128 : 128 ≤ bt s i := hhi 0 (by omega)
        have hne : (t.extract pre.size t.size).size ≠ 0 := by rw [ByteArray.size_extract]; omega
        rcases dec_char t pre.size (by omega) with ⟨q, _⟩ | ⟨c, _, hd, _⟩
        · rw [ct] at q; omega
        · rw [ct] at hd
          have hg : Lib.decodeGo (t.extract pre.size t.size) = (c, w) := by rw [Lib.decodeGo, if_neg hne, hd]
          have hx : t.extract pre.size (pre.size + w) = s.extract i (i + w) := by
            have := ext_mid pre (s.extract i (i + w)) (quoteR s (s.size - i - w) (i + w) ++ behind)
            rw [xsz, ← ByteArray.append_assoc (a := s.extract i (i + w)), ← e] at this
            exact this
          rw [unqL, if_pos (by omega), if_neg (by rw [b0]; omega), if_neg (by rw [b0]; omega), if_neg (by rw [b0]; omega), hg, if_neg (by simp only []; omega), if_pos ⟨by simp only []; omega, osz⟩]
          simp only []
          rw [hx, ext_join s i (i + w) (by omega) (by omega)]
          have psz : (pre ++ s.extract i (i + w)).size = pre.size + w := by rw [ByteArray.size_append, xsz]
          rw [← psz]
          exact ih (i + w) k (pre ++ s.extract i (i + w)) (by omega) (by omega) hc (by
            rw [show s.size - (i + w) = s.size - i - w by omega]
            exact e.trans (by simp only [ByteArray.append_assoc])) (by omega)
    · obtain rfl : i = s.size := by omega
      rw [Nat.sub_self] at e
      exact fin k pre e (by omega)
theorem quote_size (s : ByteArray) : ∀ n i, (quoteR s n i).size ≤ 1 + 6 * n
  | 0, _ => by rw [quoteR, nums_len]; decide
  | n + 1, i => by
    have := quote_size s n (i + 1)
    have hq : (quoteI (bt s i)).length ≤ 6 := by
      unfold quoteI
      repeat' split
      all_goals simp
    rw [quoteR, ByteArray.size_append, nums_len]
    omega
theorem UtfBack : bosunlaw06_UtfBack.Pure := by
  intro s b hs hb
  refine ⟨100001, ?_⟩
  have long : ∀ x, x = true → bosunlaw06_UtfBack.j0 100001 s b x = some true := by
    intro x hx
    rw [bosunlaw06_UtfBack.j0, if_pos hx, awake06 _ (by omega)]
    rfl
  rw [bosunlaw06_UtfBack.f]
  by_cases h : (s.size : Int) > 6000
  · rw [if_pos h]; exact long _ rfl
  rw [if_neg h]
  by_cases hbz : (b.size : Int) > 100
  · rw [if_pos hbz]; exact long _ rfl
  rw [if_neg hbz, utf_is s (by omega) _ (by omega), Option.bind_some]
  by_cases hc : chain s s.size 0 = true
  · have hqz := quote_size s s.size 0
    have hQ : (strOfNums [34] ++ quoteR s s.size 0).size ≤ 40000 := by rw [ByteArray.size_append, nums_len]; simp; omega
    rw [hc, bosunlaw06_UtfBack.j0, if_neg (by decide), utf_Quote.f, if_pos (by omega), Option.bind_some]
    obtain ⟨Q, hQ'⟩ : ∃ Q, strOfNums [34] ++ quoteR s s.size 0 = Q := ⟨_, rfl⟩
    rw [hQ'] at hQ ⊢
    have hsz : (Q ++ b).size = Q.size + b.size := ByteArray.size_append
    have hl := unq_loop s b (Q ++ b) (by omega) (by omega) s.size 0 100000 (strOfNums [34]) (by omega) (by omega) hc (by rw [← hQ', ByteArray.append_assoc, Nat.sub_zero]) (by omega)
    have hq1 : 1 ≤ Q.size := by rw [← hQ', ByteArray.size_append, nums_len]; simp
    have hb0 : bt (Q ++ b) 0 = 34 := by
      rw [← hQ', ByteArray.append_assoc]
      exact (bt_left (strOfNums [34]) (quoteR s s.size 0 ++ b) 0 (by rw [nums_len]; decide)).trans rfl
    have e0 : s.extract 0 0 = ⟨#[]⟩ := by
      apply ByteArray.ext
      rw [ByteArray.data_extract]
      simp
    rw [e0, show (strOfNums [34]).size = 1 from nums_len [34], show (Q ++ b).size - b.size = Q.size by omega] at hl
    have hu : utf_Unquote.f 100000 (Q ++ b) = some (ans s Q.size) := by
      rw [utf_Unquote.f, if_pos ⟨by omega, by omega, hb0⟩]
      exact hl
    rw [if_pos (by omega), hu, Option.bind_some, awake06 _ (by omega), Option.bind_some, Option.bind_some]
    unfold ans
    by_cases hz : s.size > 4096
    · rw [if_pos (show (s.size : Int) > 4096 by omega), if_pos rfl, if_pos hz]
      simp only [if_true]
      rw [if_pos (by rw [ByteArray.toList_eq])]
      rfl
    · rw [if_neg (show ¬ (s.size : Int) > 4096 by omega), if_pos rfl, if_neg hz]
      simp only [if_true]
      rw [beq_self_eq_true]
  · have : (!chain s s.size 0) = true := by
      cases hq : chain s s.size 0 with
      | true => exact absurd hq hc
      | false => rfl
    exact long _ this
end Go.Proofs.YtenbeniaohigmaaDoor.Pure
