/- dns: parts, put together, are the name; of one part it is a label; two names, put together, are one. Plain lemmas. No conditions beside those stated. -/
import Derived.Test.YtenbeniaohigmaaDoorGDnsDnsPartsS
import Derived.Laws.Strings
namespace Go.Proofs.YtenbeniaohigmaaDoor.Pure
open Go.RowKit Go.Proofs.YtenbeniaohigmaaDoor.GDns Go.Proofs.YtenbeniaohigmaaDoor.Split Go.Proofs.YtenbeniaohigmaaDoorW.PrintWords Go.Proofs.YtenbeniaohigmaaDoorW.PrintLast Go.Proofs.YtenbeniaohigmaaDoorW.PrintMore

/-! pieces -/
/-- Pieces, put together. -/
def glue (c : UInt8) : List (List UInt8) → List UInt8
  | [] => []
  | p :: ps => p ++ ps.flatMap (fun q => c :: q)
theorem glue_pieces (c : UInt8) : ∀ l, glue c (pieces c l) = l
  | [] => rfl
  | x :: l => by
    have ih := glue_pieces c l
    have hne := pieces_ne c l
    unfold pieces
    cases h : pieces c l with
    | nil => exact absurd h hne
    | cons p ps =>
      rw [h] at ih
      split
      · rename_i e
        subst e
        simp only [glue, List.flatMap_cons, List.nil_append, List.cons_append] at ih ⊢
        rw [ih]
      · simp only [glue, List.cons_append] at ih ⊢
        rw [ih]
theorem pieces_eq (c x : UInt8) (l p : List UInt8) (ps : List (List UInt8)) (h : pieces c l = p :: ps) : pieces c (x :: l) = if x = c then [] :: p :: ps else (x :: p) :: ps := by
  rw [pieces, h]
theorem pieces_append (c : UInt8) : ∀ (l m : List UInt8), pieces c (l ++ c :: m) = pieces c l ++ pieces c m
  | [], m => by
    cases h : pieces c m with
    | nil => exact absurd h (pieces_ne c m)
    | cons q qs =>
      rw [List.nil_append, pieces_eq c c m q qs h, if_pos rfl]
      rfl
  | x :: l, m => by
    have ih := pieces_append c l m
    cases h : pieces c l with
    | nil => exact absurd h (pieces_ne c l)
    | cons p ps =>
      rw [h, List.cons_append] at ih
      rw [List.cons_append, pieces_eq c x _ p _ ih, pieces_eq c x l p ps h]
      split <;> rfl
theorem flat_mem (c : UInt8) : ∀ (qs : List (List UInt8)) (p : List UInt8), p ∈ qs → p.length ≤ (qs.flatMap fun q => c :: q).length
  | [], p, h => by cases h
  | r :: rs, p, h => by
    simp only [List.flatMap_cons, List.length_append, List.length_cons]
    rcases List.mem_cons.1 h with rfl | h
    · omega
    · have := flat_mem c rs p h
      omega
theorem glue_length (c : UInt8) (l : List (List UInt8)) : ∀ p ∈ l, p.length ≤ (glue c l).length := by
  intro p hp
  cases l with
  | nil => cases hp
  | cons q qs =>
    simp only [glue, List.length_append]
    rcases List.mem_cons.1 hp with rfl | hp
    · omega
    · have := flat_mem c qs p hp
      omega
theorem glue_count (c : UInt8) (l : List (List UInt8)) : l.length ≤ (glue c l).length + 1 := by
  cases l with
  | nil => simp
  | cons q qs =>
    simp only [glue, List.length_append, List.length_cons]
    have : qs.length ≤ (qs.flatMap fun q => c :: q).length := by
      induction qs with
      | nil => simp
      | cons r rs ih => simp only [List.flatMap_cons, List.length_append, List.length_cons]; omega
    omega

/-! texts -/
theorem texts_size (c : UInt8) (s : ByteArray) : ∀ p ∈ texts c s, p.size ≤ s.size := by
  intro p hp
  obtain ⟨l, hl, rfl⟩ := List.mem_map.1 hp
  have := glue_length c _ l hl
  rw [glue_pieces] at this
  show l.toArray.size ≤ s.size
  simpa using this
theorem texts_length (c : UInt8) (s : ByteArray) : (texts c s).length ≤ s.size + 1 := by
  have := glue_count c (pieces c s.data.toList)
  rw [glue_pieces] at this
  simpa [texts] using this
theorem texts_join (c : UInt8) (a b : ByteArray) : texts c (a ++ ⟨#[c]⟩ ++ b) = texts c a ++ texts c b := by
  unfold texts
  rw [← List.map_append, ← pieces_append]
  congr 2
  simp
theorem one_text (c : UInt8) (s : ByteArray) (h : (texts c s).length = 1) : texts c s = [s] := by
  unfold texts at h ⊢
  have hg := glue_pieces c s.data.toList
  cases hp : pieces c s.data.toList with
  | nil => exact absurd hp (pieces_ne c _)
  | cons p ps =>
    rw [hp] at h hg
    simp at h
    subst h
    simp [glue] at hg
    simp [hg]
theorem sign_in (c : UInt8) (s : ByteArray) (h : (texts c s).length ≠ 1) : ∃ k : Nat, s.data.toList[k]? = some c := by
  apply Classical.byContradiction
  intro hn
  apply h
  unfold texts
  rw [pieces_none c _ (fun k hk => hn ⟨k, hk⟩)]
  rfl
theorem split_texts (c : UInt8) : ∀ (n : Nat) (s : ByteArray), s.size ≤ n → Lib.splitB ⟨#[c]⟩ 0 (Lib.countB s ⟨#[c]⟩) s = texts c s := by
  intro n
  induction n with
  | zero =>
    intro s hs
    rcases Lib.indexB_cases s ⟨#[c]⟩ with hx | ⟨i, hx, hi⟩
    · rw [Lib.splitB_miss _ _ _ _ hx, texts_none c s (by rw [← Lib.index_one]; exact hx)]
    · exact absurd hi (by show ¬ (i + 1 ≤ s.size); omega)
  | succ n ih =>
    intro s hs
    rcases Lib.indexB_cases s ⟨#[c]⟩ with hx | ⟨i, hx, hi⟩
    · rw [Lib.splitB_miss _ _ _ _ hx, texts_none c s (by rw [← Lib.index_one]; exact hx)]
    · have hi' : i + 1 ≤ s.size := hi
      obtain ⟨_, ht⟩ := texts_some c s i (by rw [← Lib.index_one]; exact hx)
      rw [Lib.countB_hit s ⟨#[c]⟩ i (Nat.le_refl 1) hx, Nat.add_comm, Lib.splitB_hit _ _ _ _ _ hx, ht]
      have := ih (s.extract (i + 1) s.size) (by rw [ByteArray.size_extract]; omega)
      exact congrArg _ this

/-! labels -/
theorem ch_dot {k : Nat} {s : ByteArray} {n i : Int} (hb : bt s i = 46) (h0 : 0 ≤ i) (h1 : i < (s.size : Int)) (hn : i < n) : dns_Label.l0 (k + 1) s n i = some false := by
  rw [dns_Label.l0, if_pos hn, if_pos h0, if_pos h1, hb]
  rfl
theorem ch_step (k : Nat) (s : ByteArray) (n i : Int) (h0 : 0 ≤ i) (h1 : i < (s.size : Int)) (hn : i < n) : (∀ k, dns_Label.l0 (k + 1) s n i = dns_Label.l0 k s n (wrap64 (i + 1))) ∨ (∀ k, dns_Label.l0 (k + 1) s n i = some false) := by
  have hs : dns_small.f (bt s i) = some true ∨ dns_small.f (bt s i) = some false := by
    cases h : dns_small.f (bt s i) with
    | none => unfold dns_small.f at h; split at h <;> cases h
    | some b => cases b <;> simp
  have hd : dns_digit.f (bt s i) = some true ∨ dns_digit.f (bt s i) = some false := by
    cases h : dns_digit.f (bt s i) with
    | none => unfold dns_digit.f at h; split at h <;> cases h
    | some b => cases b <;> simp
  rcases hs with hs | hs
  · exact .inl fun k => by rw [dns_Label.l0, if_pos hn, if_pos h0, if_pos h1, hs]; rfl
  · rcases hd with hd | hd
    · exact .inl fun k => by rw [dns_Label.l0, if_pos hn, if_pos h0, if_pos h1, hs, hd]; rfl
    · by_cases h45 : bt s i = 45
      · exact .inl fun k => by rw [dns_Label.l0, if_pos hn, if_pos h0, if_pos h1, hs, hd]; simp [h45]
      · exact .inr fun k => by rw [dns_Label.l0, if_pos hn, if_pos h0, if_pos h1, hs, hd]; simp [h45]
theorem l0_is (s : ByteArray) (hs : s.size ≤ 140737488351232) : ∀ (m i : Nat), i + m = s.size → ∃ b : Bool, (∀ k, m < k → dns_Label.l0 k s (s.size : Int) (i : Int) = some b) ∧ (b = true → ∀ j : Nat, i ≤ j → j < s.size → bt s j ≠ 46)
  | 0, i, h => ⟨true, fun k hk => by
      obtain ⟨k, rfl⟩ : ∃ k', k = k' + 1 := ⟨k - 1, by omega⟩
      rw [dns_Label.l0, if_neg (by omega)], fun _ j h1 h2 => by omega⟩
  | m + 1, i, h => by
    obtain ⟨b, hb, hd⟩ := l0_is s hs m (i + 1) (by omega)
    have hw : wrap64 ((i : Int) + 1) = ((i + 1 : Nat) : Int) := by rw [i64_id (by omega) (by omega)]; omega
    rcases ch_step 0 s (s.size : Int) (i : Int) (by omega) (by omega) (by omega) with hst | hst
    · refine ⟨b, fun k hk => ?_, fun e j h1 h2 hj => ?_⟩
      · obtain ⟨k, rfl⟩ : ∃ k', k = k' + 1 := ⟨k - 1, by omega⟩
        rw [hst, hw]
        exact hb k (by omega)
      · rcases Nat.lt_or_ge i j with hlt | hge
        · exact hd e j hlt h2 hj
        · obtain rfl : i = j := by omega
          have h1 := hst (m + 1)
          rw [ch_dot hj (by omega) (by omega) (by omega), hw, hb (m + 1) (by omega)] at h1
          subst e
          cases h1
    · refine ⟨false, fun k hk => ?_, fun e => by cases e⟩
      obtain ⟨k, rfl⟩ : ∃ k', k = k' + 1 := ⟨k - 1, by omega⟩
      exact hst k
theorem j0_is (s : ByteArray) (hs : s.size ≤ 140737488351232) (x : Bool) : ∃ b : Bool, (∀ k, s.size + 1 < k → dns_Label.j0 k s x = some b) ∧ (b = true → ∀ j : Nat, j < s.size → bt s j ≠ 46) := by
  obtain ⟨b, hb, hd⟩ := l0_is s hs s.size 0 (by omega)
  cases x with
  | true => exact ⟨false, fun k hk => by obtain ⟨k, rfl⟩ : ∃ k', k = k' + 1 := ⟨k - 1, by omega⟩; rw [dns_Label.j0, if_pos rfl], fun e => by cases e⟩
  | false =>
    exact ⟨b, fun k hk => by obtain ⟨k, rfl⟩ : ∃ k', k = k' + 1 := ⟨k - 1, by omega⟩; rw [dns_Label.j0, if_neg (by decide)]; exact hb k (by omega), fun e j h => hd e j (Nat.zero_le _) h⟩
theorem label_is (s : ByteArray) (hs : s.size ≤ 140737488351232) : ∃ b : Bool, (∀ k, s.size + 1 < k → dns_Label.f k s = some b) ∧ (b = true → ∀ j : Nat, j < s.size → bt s j ≠ 46) := by
  obtain ⟨b1, h1, d1⟩ := j0_is s hs true
  by_cases he : s.toList = ([] : List UInt8)
  · exact ⟨b1, fun k hk => by rw [dns_Label.f, if_pos he]; exact h1 k hk, d1⟩
  by_cases hl : (s.size : Int) > 63
  · exact ⟨b1, fun k hk => by rw [dns_Label.f, if_neg he, if_pos hl]; exact h1 k hk, d1⟩
  have hp : 0 < (s.size : Int) := by
    have : s.size ≠ 0 := fun h0 => he (by rw [ByteArray.toList_eq]; exact List.eq_nil_of_length_eq_zero (by rw [Array.length_toList]; exact h0))
    omega
  by_cases hf : bt s 0 = 45
  · exact ⟨b1, fun k hk => by rw [dns_Label.f, if_neg he, if_neg hl, if_pos hp, if_pos hf]; exact h1 k hk, d1⟩
  have hw : wrap64 ((s.size : Int) - 1) = (s.size : Int) - 1 := i64_id (by omega) (by omega)
  obtain ⟨b2, h2, d2⟩ := j0_is s hs ((bt s (wrap64 ((s.size : Int) - 1))) == 45)
  exact ⟨b2, fun k hk => by rw [dns_Label.f, if_neg he, if_neg hl, if_pos hp, if_neg hf, if_pos (by omega), if_pos (by omega)]; exact h2 k hk, d2⟩
/-- Is it a label? -/
noncomputable def lab (s : ByteArray) : Bool := if h : s.size ≤ 140737488351232 then Classical.choose (label_is s h) else false
theorem lab_is (s : ByteArray) (hs : s.size ≤ 140737488351232) (k : Nat) (hk : s.size + 1 < k) : dns_Label.f k s = some (lab s) := by
  rw [lab, dif_pos hs]
  exact (Classical.choose_spec (label_is s hs)).1 k hk
theorem lab_dot (s : ByteArray) (hs : s.size ≤ 140737488351232) (h : lab s = true) : ∀ j : Nat, j < s.size → bt s j ≠ 46 := by
  rw [lab, dif_pos hs] at h
  exact (Classical.choose_spec (label_is s hs)).2 h
theorem labels_is (k : Nat) : ∀ l : List ByteArray, (∀ p ∈ l, p.size ≤ 140737488351232 ∧ p.size + 1 < k) → labels k l = some (l.all lab)
  | [], _ => rfl
  | p :: l, h => by
    rw [labels, lab_is p (h p (by simp)).1 k (h p (by simp)).2]
    show (if lab p = true then labels k l else some false) = _
    rw [labels_is k l (fun q hq => h q (List.mem_cons_of_mem _ hq)), List.all_cons]
    cases lab p <;> rfl
theorem name_is (k : Nat) (s : ByteArray) (hs : s.size ≤ 140737488351232) (hk : s.size + 1 < k) : dns_Name.f k s = some ((texts 46 s).all lab && decide ((s.size : Int) ≤ 253)) := by
  rw [dns_Name.f, if_pos hs, labels_is k _ (fun p hp => by have := texts_size 46 s p hp; omega)]
  show (if _ = true then _ else _) = _
  cases (texts 46 s).all lab <;> rfl

/-! the law -/
theorem awake (k : Nat) (hk : 20 < k) : bosunlaw13_Awake.f k = some true := by
  have h : bosunlaw13_Awake.f 20 = some true := by decide +kernel
  obtain ⟨d, rfl⟩ : ∃ d, k = 20 + d := ⟨k - 20, by omega⟩
  clear hk
  induction d with
  | zero => exact h
  | succ d ih => exact bosunlaw13_Awake.mono _ _ ih
theorem size_of_list {s : ByteArray} {l : List UInt8} (h : s.data.toList = l) : s.size = l.length := by
  rw [← h, Array.length_toList]
  rfl
theorem both_is (k : Nat) (a b : ByteArray) (ha : a.size ≤ 400) (hb : b.size ≤ 400) (hk : 2000 < k) : bosunlaw13_DnsParts.j2 k a b = some true := by
  obtain ⟨k, rfl⟩ : ∃ k', k = k' + 1 := ⟨k - 1, by omega⟩
  have e1 : (a ++ (⟨#[46]⟩ : ByteArray)).size = a.size + 1 := by rw [ByteArray.size_append]; rfl
  have e2 : ((a ++ (⟨#[46]⟩ : ByteArray)) ++ b).size = a.size + 1 + b.size := by rw [ByteArray.size_append, e1]
  rw [bosunlaw13_DnsParts.j2, if_pos (by omega), if_pos (by rw [e1]; omega), awake k (by omega)]
  rw [Option.bind_some, if_pos rfl]
  by_cases h : (((a ++ (⟨#[46]⟩ : ByteArray)) ++ b).size : Int) > 253
  · rw [if_pos h]
  · rw [if_neg h, name_is k _ (by omega) (by omega), name_is k a (by omega) (by omega), name_is k b (by omega) (by omega), texts_join, List.all_append]
    have h1 : decide ((((a ++ (⟨#[46]⟩ : ByteArray)) ++ b).size : Int) ≤ 253) = true := decide_eq_true (by omega)
    have h2 : decide ((a.size : Int) ≤ 253) = true := decide_eq_true (by omega)
    have h3 : decide ((b.size : Int) ≤ 253) = true := decide_eq_true (by omega)
    rw [h1, h2, h3]
    cases (texts 46 a).all lab <;> cases (texts 46 b).all lab <;> rfl
theorem end_is (k : Nat) (a b : ByteArray) (ha : a.size ≤ 400) (hb : b.size ≤ 400) (hk : 3000 < k) (hall : ∀ p ∈ texts 46 a, lab p = true) (i : Int) (hi : i = ((texts 46 a).length : Int)) :
    bosunlaw13_DnsParts.l0 k a b (texts 46 a) a (texts 46 a) ((texts 46 a).length : Int) i = some true := by
  obtain ⟨k, rfl⟩ : ∃ k', k = k' + 1 := ⟨k - 1, by omega⟩
  rw [bosunlaw13_DnsParts.l0, if_neg (by omega), if_pos rfl, lab_is a (by omega) k (by omega)]
  show (if ((((texts 46 a).length : Int) == 1) != lab a) = true then some false else _) = _
  have hx : ((((texts 46 a).length : Int) == 1) != lab a) = false := by
    by_cases h1 : (texts 46 a).length = 1
    · have hl : lab a = true := hall a (by rw [one_text 46 a h1]; simp)
      rw [hl, h1]
      rfl
    · have h2 : (((texts 46 a).length : Int) == 1) = false := beq_eq_false_iff_ne.2 (by omega)
      have hl : lab a = false := by
        cases hl : lab a with
        | false => rfl
        | true =>
          obtain ⟨j, hj⟩ := sign_in 46 a h1
          have hjl := (List.getElem?_eq_some_iff.1 hj)
          obtain ⟨hlt, hv⟩ := hjl
          have hlt' : j < a.size := by rw [Array.length_toList] at hlt; exact hlt
          refine absurd ?_ (lab_dot a (by omega) hl j hlt')
          have : (a[j]'hlt') = 46 := by rw [← hv, Array.getElem_toList]; rfl
          simp only [bt, Int.toNat_natCast]
          rw [dif_pos hlt', this]
          rfl
      rw [h2, hl]
      rfl
  rw [hx, if_neg (by decide)]
  exact both_is k a b ha hb (by omega)
theorem rest_is (a b : ByteArray) (ha : a.size ≤ 400) (hb : b.size ≤ 400) (hall : ∀ p ∈ texts 46 a, lab p = true) : ∀ (m i : Nat) (k : Nat) (x : ByteArray), 1 ≤ i → i + m = (texts 46 a).length → 3000 + m < k →
    x.data.toList ++ (((texts 46 a).drop i).map (·.data.toList)).flatMap (fun q => 46 :: q) = a.data.toList →
    bosunlaw13_DnsParts.l0 k a b (texts 46 a) x (texts 46 a) ((texts 46 a).length : Int) (i : Int) = some true
  | 0, i, k, x, h1, hm, hk, hx => by
    rw [List.drop_eq_nil_of_le (by omega)] at hx
    simp only [List.map_nil, List.flatMap_nil, List.append_nil] at hx
    obtain rfl : x = a := ByteArray.ext (Array.toList_inj.1 hx)
    exact end_is k x b ha hb (by omega) hall _ (by omega)
  | m + 1, i, k, x, h1, hm, hk, hx => by
    obtain ⟨k, rfl⟩ : ∃ k', k = k' + 1 := ⟨k - 1, by omega⟩
    have hlt : i < (texts 46 a).length := by omega
    have htl := texts_length 46 a
    rw [List.drop_eq_getElem_cons hlt] at hx
    have hmem : (texts 46 a)[i] ∈ texts 46 a := List.getElem_mem hlt
    have hrd : rdOf ByteArray.empty (texts 46 a) (i : Int) = (texts 46 a)[i] := by
      simp only [rdOf, Int.toNat_natCast, List.getD_eq_getElem?_getD]
      rw [List.getElem?_eq_getElem hlt]
      rfl
    have hlb := hall _ hmem
    have hps := texts_size 46 a _ hmem
    generalize (texts 46 a)[i] = p at hx hmem hrd hlb hps
    have hsz := size_of_list hx.symm
    simp only [List.map_cons, List.flatMap_cons, List.length_append, List.length_cons, Array.length_toList] at hsz
    have e1 : (x ++ (⟨#[46]⟩ : ByteArray)).size = x.size + 1 := by rw [ByteArray.size_append]; rfl
    have hx1 : x.data.size = x.size := rfl
    have hx2 : p.data.size = p.size := rfl
    rw [bosunlaw13_DnsParts.l0, if_pos (by omega), if_pos (by omega), if_pos (by omega), if_pos (by omega), hrd, if_pos (by omega), if_pos (by rw [e1]; omega), lab_is p (by omega) k (by omega), hlb]
    rw [Option.bind_some, if_pos rfl, i64_id (by omega) (by omega)]
    refine rest_is a b ha hb hall m (i + 1) k _ (by omega) (by omega) (by omega) ?_
    rw [← hx]
    simp
theorem parts_is (a b : ByteArray) (ha : a.size ≤ 400) (hb : b.size ≤ 400) (hall : ∀ p ∈ texts 46 a, lab p = true) (k : Nat) (hk : 5000 < k) :
    bosunlaw13_DnsParts.l0 k a b (texts 46 a) (⟨#[]⟩ : ByteArray) (texts 46 a) ((texts 46 a).length : Int) 0 = some true := by
  obtain ⟨k, rfl⟩ : ∃ k', k = k' + 1 := ⟨k - 1, by omega⟩
  have htl := texts_length 46 a
  have hlt : 0 < (texts 46 a).length := by
    cases h : texts 46 a with
    | nil => exact absurd (List.map_eq_nil_iff.1 h) (pieces_ne 46 _)
    | cons _ _ => simp
  have hmem : (texts 46 a)[0] ∈ texts 46 a := List.getElem_mem hlt
  have hrd : rdOf ByteArray.empty (texts 46 a) 0 = (texts 46 a)[0] := by
    simp only [rdOf, Int.toNat_zero, List.getD_eq_getElem?_getD]
    rw [List.getElem?_eq_getElem hlt]
    rfl
  have hlb := hall _ hmem
  have hps := texts_size 46 a _ hmem
  have hg : glue 46 ((texts 46 a).map (·.data.toList)) = a.data.toList := by
    have := glue_pieces 46 a.data.toList
    rw [← this]
    congr 1
    simp [texts, List.map_map, Function.comp_def]
  have hd : texts 46 a = (texts 46 a)[0] :: (texts 46 a).drop 1 := by
    have := List.drop_eq_getElem_cons hlt
    simpa using this
  have e0 : ((⟨#[]⟩ : ByteArray) ++ (texts 46 a)[0]) = (texts 46 a)[0] := by
    apply ByteArray.ext
    simp
  rw [bosunlaw13_DnsParts.l0, if_pos (by omega), if_pos (by omega), if_pos (by omega), if_neg (by omega), hrd, if_pos (by show (0 : Nat) + _ ≤ _; omega), lab_is _ (by omega) k (by omega), hlb]
  rw [Option.bind_some, if_pos rfl, i64_id (by omega) (by omega), e0]
  refine rest_is a b ha hb hall ((texts 46 a).length - 1) 1 k _ (Nat.le_refl _) (by omega) (by omega) ?_
  rw [hd] at hg
  exact hg
theorem DnsParts : bosunlaw13_DnsParts.Pure := by
  intro a b ha hb
  refine ⟨9000, ?_⟩
  have hj : ∀ x : Bool, (x = false → a.size ≤ 400 ∧ b.size ≤ 400) → bosunlaw13_DnsParts.j0 9000 a b x = some true := by
    intro x hx
    rw [show (9000 : Nat) = 8999 + 1 from rfl, bosunlaw13_DnsParts.j0]
    cases x with
    | true =>
      rw [if_pos rfl, awake 8999 (by omega)]
      rfl
    | false =>
      obtain ⟨h1, h2⟩ := hx rfl
      rw [if_neg (by decide), name_is 8999 a (by omega) (by omega)]
      rw [Option.bind_some]
      by_cases hn : ((texts 46 a).all lab && decide ((a.size : Int) ≤ 253)) = true
      · have hall : ∀ p ∈ texts 46 a, lab p = true := List.all_eq_true.1 (Bool.and_eq_true_iff.1 hn).1
        have hp : dns_Parts.f 8999 a = some (texts 46 a) := by
          rw [dns_Parts.f, name_is 8999 a (by omega) (by omega), hn]
          rw [Option.bind_some, if_pos rfl, strings_Split.f, if_pos ⟨by omega, Nat.le_refl 1⟩, split_texts 46 a.size a (Nat.le_refl _)]
          rfl
        rw [if_pos hn, hp]
        exact parts_is a b h1 h2 hall 8999 (by omega)
      · rw [if_neg hn]
        exact both_is 8999 a b h1 h2 (by omega)
  rw [bosunlaw13_DnsParts.f]
  split
  · exact hj true (fun e => by cases e)
  · exact hj _ (fun e => ⟨by omega, by have := of_decide_eq_false e; omega⟩)
end Go.Proofs.YtenbeniaohigmaaDoor.Pure
