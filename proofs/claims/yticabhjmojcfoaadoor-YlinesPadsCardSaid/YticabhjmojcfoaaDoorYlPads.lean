/- Blanks and remarks behind a line change nothing of its rows. Plain lemmas. No conditions beside those stated. -/
import Derived.Test.YticabhjmojcfoaaDoorYl
namespace Go.Proofs.YticabhjmojcfoaaDoor.Pure
open Go.RowKit Go.Proofs.YticabhjmojcfoaaDoor.GUt Go.Proofs.YticabhjmojcfoaaDoor.Split Go.Proofs.YticabhjmojcfoaaDoorW.PrintWords Go.Proofs.YticabhjmojcfoaaDoorW.PrintLast Go.Proofs.YticabhjmojcfoaaDoorW.PrintMore

theorem bt_right (a b : ByteArray) (j : Nat) : bt (a ++ b) ((a.size + j : Nat) : Int) = bt b (j : Int) := by
  unfold bt
  by_cases h : j < b.size
  · rw [dif_pos (show ((a.size + j : Nat) : Int).toNat < (a ++ b).size by rw [ByteArray.size_append]; omega), dif_pos (show ((j : Nat) : Int).toNat < b.size by omega)]
    have e : ∀ (x : Nat) (hx : x < (a ++ b).size) (y : Nat) (hy : y < b.size), x = a.size + y → (a ++ b)[x]'hx = b[y]'hy := by
      intro x hx y hy hxy
      subst hxy
      rw [ByteArray.getElem_append_right (a := a) (b := b) (i := a.size + y) (h := hx) (Nat.le_add_right _ _)]
      simp
    exact congrArg (fun c : UInt8 => (c.toNat : Int)) (e _ (by rw [ByteArray.size_append]; omega) _ (by omega) (by omega))
  · rw [dif_neg (by rw [ByteArray.size_append]; omega), dif_neg (by omega)]
theorem bt_left (a b : ByteArray) (j : Nat) (h : j < a.size) : bt (a ++ b) (j : Int) = bt a (j : Int) := by
  unfold bt
  rw [dif_pos (show ((j : Nat) : Int).toNat < (a ++ b).size by rw [ByteArray.size_append]; omega), dif_pos (show ((j : Nat) : Int).toNat < a.size by omega)]
  rw [ByteArray.getElem_append_left]
/-- Plain signs. -/
def Ascii (p : ByteArray) : Prop := ∀ j : Nat, j < p.size → 32 ≤ bt p (j : Int) ∧ bt p (j : Int) < 128
theorem okB_app (s p : ByteArray) (hp : Ascii p) (j : Nat) (lo hi : Int) (hlo : 128 ≤ lo) : okB (s ++ p) j lo hi = okB s j lo hi := by
  unfold okB
  by_cases h : j < s.size
  · rw [bt_left s p j h, decide_eq_true h, decide_eq_true (show j < (s ++ p).size by rw [ByteArray.size_append]; omega)]
  · rw [decide_eq_false h, Bool.false_and]
    by_cases h2 : j < (s ++ p).size
    · rw [ByteArray.size_append] at h2
      have := hp (j - s.size) (by omega)
      have e := bt_right s p (j - s.size)
      rw [show s.size + (j - s.size) = j by omega] at e
      rw [e, decide_eq_false (show ¬ lo ≤ bt p ((j - s.size : Nat) : Int) by omega), Bool.false_and, Bool.and_false]
    · rw [decide_eq_false h2, Bool.false_and]
theorem charN_app (s p : ByteArray) (hp : Ascii p) (i : Nat) (hi : i < s.size) : charN (s ++ p) i = charN s i := by
  have l1 : ∀ a : Int, 128 ≤ (if bt s i = a then (160 : Int) else 128) := by
    intro a
    split <;> omega
  have l2 : ∀ a : Int, 128 ≤ (if bt s i = a then (144 : Int) else 128) := by
    intro a
    split <;> omega
  unfold charN
  rw [bt_left s p i hi, okB_app s p hp _ 128 191 (by omega), okB_app s p hp _ 128 191 (by omega), okB_app s p hp _ 128 191 (by omega), okB_app s p hp _ _ _ (l1 224), okB_app s p hp _ _ _ (l2 240)]
theorem chain_behind (s p : ByteArray) (hp : Ascii p) : ∀ n i, s.size ≤ i → chain (s ++ p) n i = true
  | 0, _, _ => rfl
  | n + 1, i, h => by
    rw [chain]
    by_cases h2 : i < (s ++ p).size
    · rw [ByteArray.size_append] at h2
      have q := hp (i - s.size) (by omega)
      have e := bt_right s p (i - s.size)
      rw [show s.size + (i - s.size) = i by omega] at e
      have hc : charN (s ++ p) i = 1 := by
        unfold charN
        rw [if_pos (by rw [e]; omega)]
      rw [if_pos (by rw [ByteArray.size_append]; omega), hc, if_neg (by decide)]
      exact chain_behind s p hp n (i + 1) (by omega)
    · rw [if_neg h2]
theorem chain_app (s p : ByteArray) (hp : Ascii p) : ∀ n i, i ≤ s.size → s.size - i ≤ n → chain (s ++ p) (n + p.size) i = chain s n i
  | 0, i, h1, h2 => by
    rw [chain]
    exact chain_behind s p hp _ i (by omega)
  | n + 1, i, h1, h2 => by
    by_cases h : i < s.size
    · have hf := charN_fit s i h
      rw [show n + 1 + p.size = (n + p.size) + 1 by omega, chain, chain, if_pos h, if_pos (by rw [ByteArray.size_append]; omega), charN_app s p hp i h]
      by_cases h0 : charN s i = 0
      · rw [if_pos h0, if_pos h0]
      · rw [if_neg h0, if_neg h0]
        exact chain_app s p hp n _ hf.1 (by omega)
    · rw [chain_behind s p hp _ i (by omega), chain, if_neg h]
theorem low_behind (s p : ByteArray) (hp : Ascii p) : ∀ m i, s.size ≤ i → i + m = s.size + p.size → lowN (s ++ p) m i = false
  | 0, _, _, _ => rfl
  | m + 1, i, h, hm => by
    have q := hp (i - s.size) (by omega)
    have e := bt_right s p (i - s.size)
    rw [show s.size + (i - s.size) = i by omega] at e
    rw [lowN, if_neg (by rw [e]; omega)]
    exact low_behind s p hp m (i + 1) (by omega) (by omega)
theorem low_app (s p : ByteArray) (hp : Ascii p) : ∀ m i, i + m = s.size → lowN (s ++ p) (m + p.size) i = lowN s m i
  | 0, i, h => by
    rw [lowN]
    exact low_behind s p hp _ i (by omega) (by omega)
  | m + 1, i, h => by
    rw [show m + 1 + p.size = (m + p.size) + 1 by omega, lowN, lowN, bt_left s p i (by omega), low_app s p hp m (i + 1) (by omega)]
theorem wrong_app (s p : ByteArray) (hp : Ascii p) : wrongN (s ++ p) = wrongN s := by
  unfold wrongN
  rw [ByteArray.size_append, low_app s p hp s.size 0 (by omega), chain_app s p hp s.size 0 (by omega) (by omega)]
/-- A line without line feeds, remarks and quotes. -/
def Good (s : ByteArray) : Prop := ∀ j : Nat, j < s.size → bt s (j : Int) ≠ 10 ∧ bt s (j : Int) ≠ 35 ∧ bt s (j : Int) ≠ 34
theorem rem_app (s p : ByteArray) (hg : Good s) : ∀ m i, i + m = s.size → remN (s ++ p) (m + p.size) i false false = remN (s ++ p) p.size s.size false false
  | 0, i, h => by rw [Nat.zero_add, show i = s.size by omega]
  | m + 1, i, h => by
    have q := hg i (by omega)
    rw [show m + 1 + p.size = (m + p.size) + 1 by omega, remN, if_neg Bool.false_ne_true, if_neg (fun x => Bool.noConfusion x.1), bt_left s p i (by omega), if_neg q.2.2, if_neg (fun x => q.2.1 x.1)]
    exact rem_app s p hg m (i + 1) (by omega)
theorem ext_pre (s p : ByteArray) (e : Nat) (he : e ≤ s.size) : (s ++ p).extract 0 e = s.extract 0 e := by
  apply ByteArray.ext
  apply Array.ext'
  rw [ByteArray.data_extract, Array.toList_extract, ByteArray.data_extract, Array.toList_extract]
  show (((s ++ p).data.toList.drop 0).take (e - 0)) = ((s.data.toList.drop 0).take (e - 0))
  have : (s ++ p).data.toList = s.data.toList ++ p.data.toList := by simp
  rw [this, List.drop_zero, List.drop_zero, List.take_append_of_le_length (by rw [Array.length_toList]; exact he)]
theorem end_pre (s p : ByteArray) : ∀ m, m ≤ s.size → endN (s ++ p) m = endN s m
  | 0, _ => rfl
  | m + 1, h => by rw [endN, endN, bt_left s p m (by omega), end_pre s p m (by omega)]
theorem end_blank (s p : ByteArray) (hp : ∀ j : Nat, j < p.size → bt p (j : Int) = 32) : ∀ m, m ≤ p.size → endN (s ++ p) (s.size + m) = endN s s.size
  | 0, _ => end_pre s p s.size (Nat.le_refl _)
  | m + 1, h => by
    rw [show s.size + (m + 1) = (s.size + m) + 1 by omega, endN, bt_right, if_pos (hp m (by omega))]
    exact end_blank s p hp m (by omega)
theorem rows_blank (s p : ByteArray) (hp : ∀ j : Nat, j < p.size → bt p (j : Int) = 32) : rowsT (s ++ p) = rowsT s := by
  have he := endN_le s s.size
  unfold rowsT
  rw [ByteArray.size_append, end_blank s p hp p.size (Nat.le_refl _), ← rowsN_ext (s ++ p) (endN s s.size) (by rw [ByteArray.size_append]; omega) _ 0 (by omega), ← rowsN_ext s (endN s s.size) he _ 0 (by omega), ext_pre s p _ he]
theorem app_nil (s : ByteArray) : s ++ (⟨#[]⟩ : ByteArray) = s := by
  apply ByteArray.ext
  simp
/-- A line's answer: the code, and the rows. -/
def ans (s : ByteArray) : Int × List (Nat × Bool × ByteArray) := ((contT s).2, if (contT s).2 = 0 then rowsT (contT s).1 else [])
theorem cont_good (s p q : ByteArray) (hg : Good s) (hp : Ascii p) (hq : ∀ j : Nat, j < q.size → bt q (j : Int) = 32) (hr : ∃ r : Int, remN (s ++ p) p.size s.size false false = (r, true) ∧ (s ++ p).extract 0 r.toNat = s ++ q) : ans (s ++ p) = (wrongN s, if wrongN s = 0 then rowsT s else []) := by
  obtain ⟨r, h1, h2⟩ := hr
  unfold ans contT
  rw [wrong_app s p hp]
  by_cases hw : wrongN s = 0
  · rw [if_pos hw, if_pos hw, ByteArray.size_append, rem_app s p hg s.size 0 (by omega), h1, contN, if_pos rfl, hw]
    simp only []
    rw [if_pos True.intro, h2, rows_blank s q hq]
  · have : wrongN s = 10 := by
      rcases wrong_is s with q | q
      · exact absurd q hw
      · exact q
    rw [if_neg hw, if_neg hw, this]
    simp only []
    rw [if_neg (by decide)]
theorem blank_rem (s : ByteArray) (n : Nat) : ∀ (p : ByteArray) m i, (∀ j : Nat, j < p.size → bt p (j : Int) = 32) → s.size ≤ i → i + m = s.size + p.size → remN (s ++ p) m i false false = (((s ++ p).size : Int), true)
  | p, 0, i, _, _, _ => by rw [remN]; rfl
  | p, m + 1, i, hp, h, hm => by
    have e := bt_right s p (i - s.size)
    rw [show s.size + (i - s.size) = i by omega, hp (i - s.size) (by omega)] at e
    rw [remN, if_neg Bool.false_ne_true, if_neg (fun x => Bool.noConfusion x.1), e, if_neg (by decide), if_neg (fun x => absurd x.1 (by decide))]
    exact blank_rem s n p m (i + 1) hp (by omega) (by omega)
theorem ans_blank (s p : ByteArray) (hg : Good s) (hp : ∀ j : Nat, j < p.size → bt p (j : Int) = 32) : ans (s ++ p) = (wrongN s, if wrongN s = 0 then rowsT s else []) := by
  refine cont_good s p p hg (fun j hj => by rw [hp j hj]; decide) hp ⟨((s ++ p).size : Int), ?_, ?_⟩
  · exact blank_rem s 0 p p.size s.size hp (by omega) (by omega)
  · rw [Int.toNat_natCast, ext_all]
theorem ans_line (s : ByteArray) (hg : Good s) : ans s = (wrongN s, if wrongN s = 0 then rowsT s else []) := by
  have := ans_blank s ⟨#[]⟩ hg (fun j hj => absurd hj (by show ¬ j < 0; omega))
  rw [app_nil] at this
  exact this
def padR : ByteArray := ⟨#[32, 35, 32, 120]⟩
theorem padR_at : bt padR ((0 : Nat) : Int) = 32 ∧ bt padR ((1 : Nat) : Int) = 35 := by decide
theorem ans_remark (s : ByteArray) (hg : Good s) : ans (s ++ padR) = (wrongN s, if wrongN s = 0 then rowsT s else []) := by
  have hA : ∀ j : Fin 4, 32 ≤ bt padR ((j.val : Nat) : Int) ∧ bt padR ((j.val : Nat) : Int) < 128 := by decide
  have e0 := bt_right s padR 0
  have e1 := bt_right s padR 1
  rw [padR_at.1, Nat.add_zero] at e0
  rw [padR_at.2] at e1
  refine cont_good s padR ⟨#[32]⟩ hg (fun j hj => hA ⟨j, hj⟩) (fun j hj => by
    obtain rfl : j = 0 := by
      have : j < 1 := hj
      omega
    decide) ⟨((s.size + 1 : Nat) : Int), ?_, ?_⟩
  · show remN (s ++ padR) (2 + 1 + 1) s.size false false = _
    rw [remN, if_neg Bool.false_ne_true, if_neg (fun x => Bool.noConfusion x.1), e0, if_neg (by decide), if_neg (fun x => absurd x.1 (by decide))]
    rw [remN, if_neg Bool.false_ne_true, if_neg (fun x => Bool.noConfusion x.1), e1, if_neg (by decide), if_pos ⟨rfl, rfl, .inr (by rw [Nat.add_sub_cancel]; exact e0)⟩]
  · rw [Int.toNat_natCast]
    apply ByteArray.ext
    apply Array.ext'
    rw [ByteArray.data_extract, Array.toList_extract]
    show (((s ++ padR).data.toList.drop 0).take (s.size + 1 - 0)) = _
    have : (s ++ padR).data.toList = (s.data.toList ++ [32]) ++ [35, 32, 120] := by simp [padR]
    rw [this, List.drop_zero, List.take_append_of_le_length (by rw [List.length_append, Array.length_toList]; exact Nat.le_refl _), List.take_of_length_le (by rw [List.length_append, Array.length_toList]; exact Nat.le_refl _)]
    simp
/-- Two rows of lines with the same answer. -/
def Same (ps qs : List ByteArray) : Prop := ∀ (n n' : Nat) (out out' : List Rw), out.map (·.2) = out'.map (·.2) → (cutN ps n out).2.2 = (cutN qs n' out').2.2 ∧ (cutN ps n out).1.map (·.2) = (cutN qs n' out').1.map (·.2)
theorem cutN_ans (p : ByteArray) (ps : List ByteArray) (n : Nat) (out : List Rw) : cutN (p :: ps) n out = if (ans p).1 = 0 then cutN ps (n + 1) (out ++ (ans p).2.map fun x => (n, x)) else ([], (n : Int), (ans p).1) := by
  rw [cutN]
  unfold ans
  by_cases h : (contT p).2 = 0
  · simp only []
    rw [if_pos h, if_pos h, if_pos h]
  · simp only []
    rw [if_neg h, if_neg h]
theorem Same.cons {p q : ByteArray} {ps qs : List ByteArray} (h : ans p = ans q) (hs : Same ps qs) : Same (p :: ps) (q :: qs) := by
  intro n n' out out' ho
  rw [cutN_ans, cutN_ans, h]
  by_cases h0 : (ans q).1 = 0
  · rw [if_pos h0, if_pos h0]
    refine hs _ _ _ _ ?_
    rw [List.map_append, List.map_append, ho, List.map_map, List.map_map]
    rfl
  · rw [if_neg h0, if_neg h0]
    exact ⟨rfl, rfl⟩
theorem Same.skip {q : ByteArray} {ps qs : List ByteArray} (h : ans q = (0, [])) (hs : Same ps qs) : Same ps (q :: qs) := by
  intro n n' out out' ho
  rw [cutN_ans, h, if_pos rfl, List.map_nil, List.append_nil]
  exact hs _ _ _ _ ho
theorem Same.nil : Same [] [] := fun _ _ _ _ h => ⟨rfl, h⟩
theorem pieces_cut (c : UInt8) : ∀ l r : List UInt8, (∀ b ∈ l, b ≠ c) → pieces c (l ++ c :: r) = l :: pieces c r
  | [], r, _ => by rw [List.nil_append, pieces, if_pos rfl]
  | x :: l, r, h => by
    rw [List.cons_append, pieces, if_neg (h x List.mem_cons_self), pieces_cut c l r (fun b hb => h b (List.mem_cons_of_mem _ hb))]
theorem texts_cut (x y : ByteArray) (h : ∀ j : Nat, j < x.size → bt x (j : Int) ≠ 10) : texts 10 ((x ++ ⟨#[10]⟩) ++ y) = x :: texts 10 y := by
  have e : ((x ++ (⟨#[10]⟩ : ByteArray)) ++ y).data.toList = x.data.toList ++ 10 :: y.data.toList := by simp
  unfold texts
  rw [e, pieces_cut 10 _ _ (fun b hb => by
    obtain ⟨j, hj⟩ := List.getElem?_of_mem hb
    obtain ⟨h1, h2⟩ := at_some hj
    intro q
    exact h j h1 (by rw [← h2, q]; rfl)), List.map_cons]
theorem good_app (s p : ByteArray) (hg : Good s) (hp : Ascii p) : ∀ j : Nat, j < (s ++ p).size → bt (s ++ p) (j : Int) ≠ 10 := by
  intro j hj
  rw [ByteArray.size_append] at hj
  by_cases h : j < s.size
  · rw [bt_left s p j h]
    exact (hg j h).1
  · have e := bt_right s p (j - s.size)
    rw [show s.size + (j - s.size) = j by omega] at e
    have := hp (j - s.size) (by omega)
    rw [e]
    omega
def pads : List ByteArray := [⟨#[]⟩, ⟨#[32]⟩, ⟨#[32, 35, 32, 120]⟩, ⟨#[10]⟩, ⟨#[10, 32, 32, 35, 32, 34]⟩, ⟨#[32, 32, 32]⟩]
def padQ : ByteArray := ⟨#[32, 32, 35, 32, 34]⟩
theorem ans_empty : ans ⟨#[]⟩ = (0, []) := by decide +kernel
theorem ans_quote : ans padQ = (0, []) := by decide +kernel
theorem same_line (s p c d : ByteArray) (hg : Good s) (hp : p ∈ pads) (h : Same (texts 10 c) (texts 10 d)) : Same (texts 10 ((s ++ ⟨#[10]⟩) ++ c)) (texts 10 (((s ++ p) ++ ⟨#[10]⟩) ++ d)) := by
  have hs : ∀ j : Nat, j < s.size → bt s (j : Int) ≠ 10 := fun j hj => (hg j hj).1
  have blank : ∀ p : ByteArray, (∀ j : Nat, j < p.size → bt p (j : Int) = 32) → Same (texts 10 ((s ++ ⟨#[10]⟩) ++ c)) (texts 10 (((s ++ p) ++ ⟨#[10]⟩) ++ d)) := by
    intro p hp
    rw [texts_cut s c hs, texts_cut (s ++ p) d (good_app s p hg (fun j hj => by rw [hp j hj]; decide))]
    exact Same.cons (by rw [ans_line s hg, ans_blank s p hg hp]) h
  have ten : ∀ q : ByteArray, Ascii q → ans q = (0, []) → Same (texts 10 ((s ++ ⟨#[10]⟩) ++ c)) (texts 10 (((s ++ (⟨#[10]⟩ ++ q)) ++ ⟨#[10]⟩) ++ d)) := by
    intro q hq ha
    have e : ((s ++ ((⟨#[10]⟩ : ByteArray) ++ q)) ++ ⟨#[10]⟩) ++ d = (s ++ ⟨#[10]⟩) ++ ((q ++ ⟨#[10]⟩) ++ d) := by simp only [ByteArray.append_assoc]
    rw [e, texts_cut s c hs, texts_cut s _ hs, texts_cut q d (fun j hj => by
      have := hq j hj
      omega)]
    exact Same.cons rfl (Same.skip ha h)
  unfold pads at hp
  simp only [List.mem_cons, List.mem_nil_iff, or_false] at hp
  rcases hp with rfl | rfl | rfl | rfl | rfl | rfl
  · exact blank _ (fun j hj => absurd hj (by show ¬ j < 0; omega))
  · have q : ∀ j : Fin 1, bt (⟨#[32]⟩ : ByteArray) ((j.val : Nat) : Int) = 32 := by decide
    exact blank _ (fun j hj => q ⟨j, hj⟩)
  · have hA : ∀ j : Fin 4, 32 ≤ bt padR ((j.val : Nat) : Int) ∧ bt padR ((j.val : Nat) : Int) < 128 := by decide
    show Same (texts 10 ((s ++ ⟨#[10]⟩) ++ c)) (texts 10 (((s ++ padR) ++ ⟨#[10]⟩) ++ d))
    rw [texts_cut s c hs, texts_cut (s ++ padR) d (good_app s padR hg (fun j hj => hA ⟨j, hj⟩))]
    exact Same.cons (by rw [ans_line s hg, ans_remark s hg]) h
  · exact ten ⟨#[]⟩ (fun j hj => absurd hj (by show ¬ j < 0; omega)) ans_empty
  · have hA : ∀ j : Fin 5, 32 ≤ bt padQ ((j.val : Nat) : Int) ∧ bt padQ ((j.val : Nat) : Int) < 128 := by decide
    exact ten padQ (fun j hj => hA ⟨j, hj⟩) ans_quote
  · have q : ∀ j : Fin 3, bt (⟨#[32, 32, 32]⟩ : ByteArray) ((j.val : Nat) : Int) = 32 := by decide
    exact blank _ (fun j hj => q ⟨j, hj⟩)
/-- What stands ahead in both texts changes nothing. -/
def Rel (a b : ByteArray) : Prop := ∀ c d : ByteArray, Same (texts 10 c) (texts 10 d) → Same (texts 10 (a ++ c)) (texts 10 (b ++ d))
theorem Rel.nil : Rel ⟨#[]⟩ ⟨#[]⟩ := fun c d h => by
  have e : ∀ x : ByteArray, (⟨#[]⟩ : ByteArray) ++ x = x := fun x => ByteArray.empty_append
  rw [e, e]
  exact h
theorem Rel.line {a b s p : ByteArray} (h : Rel a b) (hg : Good s) (hp : p ∈ pads) : Rel (a ++ (s ++ ⟨#[10]⟩)) (b ++ ((s ++ p) ++ ⟨#[10]⟩)) := fun c d hs => by
  rw [ByteArray.append_assoc, ByteArray.append_assoc (a := b)]
  exact h _ _ (same_line s p c d hg hp hs)
theorem Rel.same {a b : ByteArray} (h : Rel a b) : Same (texts 10 a) (texts 10 b) := by
  have e : Same (texts 10 ⟨#[]⟩) (texts 10 ⟨#[]⟩) := Same.cons (p := ⟨#[]⟩) (q := ⟨#[]⟩) rfl Same.nil
  have := h ⟨#[]⟩ ⟨#[]⟩ e
  rw [app_nil, app_nil] at this
  exact this
end Go.Proofs.YticabhjmojcfoaaDoor.Pure
