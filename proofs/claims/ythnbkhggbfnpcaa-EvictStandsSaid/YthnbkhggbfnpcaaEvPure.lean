/- evict: EvictOrders' plain law. No program in sight but its plain functions. -/
import Derived.Test.YthnbkhggbfnpcaaEvPlain
import Derived.Test.YthnbkhggbfnpcaaEvToR
import Derived.Test.YthnbkhggbfnpcaaGEvx1
import Derived.Test.YthnbkhggbfnpcaaGEvx3
namespace Go.Proofs.Ythnbkhggbfnpcaa.Ev
open Go.Proofs.Ythnbkhggbfnpcaa.GEv Go.RowKit Go.Proofs.YthnbkhggbfnpcaaW.PrintWords
set_option linter.unusedVariables false
set_option linter.unusedSimpArgs false
theorem w64 (n : Nat) (h : n ≤ 2000) : wrap64 ((n : Int) + 1) = ((n + 1 : Nat) : Int) := by unfold wrap64; omega
theorem lift_ {α : Type} (F : Nat → Option α) (hm : ∀ k, LeO (F k) (F (k + 1))) {K : Nat} {r : α} (h : F K = some r) : ∀ K', K ≤ K' → F K' = some r := by
  intro K' hk
  obtain ⟨d, rfl⟩ := Nat.exists_eq_add_of_le hk
  induction d with
  | zero => exact h
  | succ d ih => exact hm (K + d) r (ih (by omega))
def a39 (a b : S39) : Bool := aheadB a.f0 a.f1 a.f2 b.f0 b.f1 b.f2
section
variable {α β : Type} {l1 : α → α → Bool} {l2 : β → β → Bool} {φ : α → β}
theorem getD_map_ (L : List α) (i : Nat) (d : α) : (L.map φ).getD i (φ d) = φ (L.getD i d) := by
  simp only [List.getD, List.getElem?_map]
  cases L[i]? <;> rfl
theorem best_map (h : ∀ a b, l1 a b = l2 (φ a) (φ b)) (L : List α) (d : α) : ∀ k i b, best l2 (L.map φ) (φ d) k i b = best l1 L d k i b
  | 0, _, _ => rfl
  | k + 1, i, b => by rw [best, best, best_map h L d k, getD_map_, getD_map_, ← h]
theorem erase_map : ∀ (L : List α) (i : Nat), (L.map φ).eraseIdx i = (L.eraseIdx i).map φ
  | [], _ => rfl
  | _ :: _, 0 => rfl
  | x :: xs, i + 1 => by simp [List.eraseIdx, erase_map xs i]
theorem order_map (h : ∀ a b, l1 a b = l2 (φ a) (φ b)) (d : α) : ∀ n (L : List α), orderL l2 (φ d) n (L.map φ) = (orderL l1 d n L).map φ
  | 0, _ => rfl
  | n + 1, L => by
    have e : chosen l2 (φ d) (L.map φ) = chosen l1 d L := by unfold chosen; rw [best_map h, List.length_map]
    rw [orderL, orderL, e, getD_map_, erase_map, order_map h d n, List.map_cons]
end
theorem best_lt {α : Type} (l1 : α → α → Bool) (l : List α) (d : α) : ∀ k i b, b < l.length → i + k ≤ l.length → best l1 l d k i b < l.length
  | 0, _, _, hb, _ => hb
  | k + 1, i, b, hb, hi => by
    rw [best]
    refine best_lt l1 l d k (i + 1) _ ?_ (by omega)
    split <;> omega
theorem order_l1 (left out : List S39) (hl : left.length ≤ 1000) (ho : out.length ≤ 1000) (K : Nat) : ∀ d (i b : Nat), i + d = left.length → b < left.length →
    bosunref24_Order.l1 (K + 1 + d) left out (b : Int) (i : Int) = bosunref24_Order.l0 K (left.eraseIdx (best a39 left z39 d i b)) (out ++ [left.getD (best a39 left z39 d i b) z39])
  | 0, i, b, hi, hb => by
    show bosunref24_Order.l1 (K + 1) left out (b : Int) (i : Int) = _
    rw [bosunref24_Order.l1, if_neg (by omega), if_pos (by omega), if_pos (by omega), if_pos (by omega), if_pos (by omega), w64 b (by omega), if_pos (by omega), if_pos (by omega), Int.toNat_natCast]
    rfl
  | d + 1, i, b, hi, hb => by
    show bosunref24_Order.l1 (K + 1 + d + 1) left out (b : Int) (i : Int) = _
    rw [bosunref24_Order.l1, if_pos (by omega), if_pos (by omega), if_pos (by omega), if_pos (by omega), w64 i (by omega)]
    have e : bosunref24_Ahead.f (rd_T39 left (i : Int)).f0 (rd_T39 left (i : Int)).f1 (rd_T39 left (i : Int)).f2 (rd_T39 left (b : Int)).f0 (rd_T39 left (b : Int)).f1 (rd_T39 left (b : Int)).f2 = some (a39 (left.getD i z39) (left.getD b z39)) := rfl
    rw [e, Option.bind_some, best]
    by_cases c : a39 (left.getD i z39) (left.getD b z39) = true
    · rw [if_pos c, if_pos c]
      exact order_l1 left out hl ho K d (i + 1) i (by omega) (by omega)
    · rw [if_neg c, if_neg c]
      exact order_l1 left out hl ho K d (i + 1) b (by omega) hb
theorem order_l0 : ∀ n (left out : List S39), left.length = n → n + out.length ≤ 1000 → ∃ K, bosunref24_Order.l0 K left out = some (out ++ orderL a39 z39 n left)
  | 0, left, out, h, _ => ⟨1, by rw [bosunref24_Order.l0, if_neg (by omega), orderL, List.append_nil]⟩
  | n + 1, left, out, h, hn => by
    have hb : chosen a39 z39 left < left.length := best_lt a39 left z39 (left.length - 1) 1 0 (by omega) (by omega)
    obtain ⟨K, hK⟩ := order_l0 n (left.eraseIdx (chosen a39 z39 left)) (out ++ [left.getD (chosen a39 z39 left) z39]) (by rw [List.length_eraseIdx_of_lt hb]; omega) (by simp; omega)
    refine ⟨K + 1 + (left.length - 1) + 1, ?_⟩
    rw [bosunref24_Order.l0, if_pos (by omega)]
    have := order_l1 left out (by omega) (by omega) K (left.length - 1) 1 0 (by omega) (by omega)
    rw [show ((0 : Nat) : Int) = 0 from rfl, show ((1 : Nat) : Int) = 1 from rfl] at this
    rw [this]
    show bosunref24_Order.l0 K (left.eraseIdx (chosen a39 z39 left)) (out ++ [left.getD (chosen a39 z39 left) z39]) = _
    rw [hK, orderL, List.append_assoc]
    rfl
theorem order_f (m : List S39) (hm : m.length ≤ 1000) : ∃ K, bosunref24_Order.f K m = some (orderL a39 z39 m.length m) := by
  obtain ⟨K, hK⟩ := order_l0 m.length m [] rfl (by simpa using hm)
  refine ⟨K, ?_⟩
  unfold bosunref24_Order.f
  rw [Option.bind_some, if_pos (by simp; omega), List.nil_append, hK, List.nil_append]
theorem first_l0 (k : Int) (o : List S39) (ho : o.length ≤ 1000) : ∀ d (i : Nat) (out : List ByteArray), i + d = o.length → out.length ≤ i → bosunref24_First.l0 (d + 1) k out o (i : Int) = some (out ++ ((o.drop i).take (k - i).toNat).map (·.f0))
  | 0, i, out, hi, hl => by
    rw [bosunref24_First.l0, if_neg (by omega), List.drop_of_length_le (by omega)]
    simp
  | d + 1, i, out, hi, hl => by
    rw [bosunref24_First.l0, if_pos (by omega)]
    by_cases c : (i : Int) < k
    · rw [if_pos c, if_pos (by omega), if_pos (by omega), w64 i (by omega), first_l0 k o ho d (i + 1) _ (by omega) (by simp; omega), drop_rd o i (by omega)]
      have e : (k - (i : Int)).toNat = (k - ((i + 1 : Nat) : Int)).toNat + 1 := by omega
      rw [e, List.take_succ_cons, List.map_cons, List.append_assoc]
      rfl
    · rw [if_neg c]
      have e : (k - (i : Int)).toNat = 0 := by omega
      rw [e]
      simp
theorem texts_l0 (r : List ByteArray) (hr : r.length ≤ 1000) : ∀ d (i : Nat), i + d = r.length → bosunlaw24_texts.l0 (d + 1) r r (r.length : Int) (i : Int) = some true
  | 0, i, hi => by rw [bosunlaw24_texts.l0, if_neg (by omega)]
  | d + 1, i, hi => by
    rw [bosunlaw24_texts.l0, if_pos (by omega), if_pos (by omega), if_pos (by omega), if_pos (by omega), if_pos rfl, w64 i (by omega)]
    exact texts_l0 r hr d (i + 1) (by omega)
theorem texts_f (r : List ByteArray) (hr : r.length ≤ 1000) : bosunlaw24_texts.f (r.length + 1) r r = some true := by
  unfold bosunlaw24_texts.f
  rw [if_pos rfl]
  exact texts_l0 r hr r.length 0 (by omega)
theorem of_l0 (l : List S27) (hl : l.length ≤ 1000) : ∀ d (i : Nat) (out : List S39), i + d = l.length → out.length ≤ i → bosunlaw24_of.l0 (d + 1) out l (l.length : Int) (i : Int) = some (out ++ (l.drop i).map toR)
  | 0, i, out, hi, ho => by
    rw [bosunlaw24_of.l0, if_neg (by omega), List.drop_of_length_le (by omega)]
    simp
  | d + 1, i, out, hi, ho => by
    have e : l.drop i = rd_T27 l (i : Int) :: l.drop (i + 1) := by
      rw [List.drop_eq_getElem_cons (by omega : i < l.length)]
      congr 1
      simp [rd_T27, List.getD, show i < l.length by omega]
    rw [bosunlaw24_of.l0, if_pos (by omega), if_pos (by omega), if_pos (by omega), if_pos (by omega), w64 i (by omega), of_l0 l hl d (i + 1) _ (by omega) (by simp; omega), e, List.map_cons, List.append_assoc]
    rfl
theorem of_f (l : List S27) (hl : l.length ≤ 1000) : bosunlaw24_of.f (l.length + 1) l = some (l.map toR) := by
  unfold bosunlaw24_of.f
  have := of_l0 l hl l.length 0 [] (by omega) (by simp)
  rw [List.nil_append, List.drop_zero] at this
  exact this
/-! ### the two sides -/
def ordered (l : List S27) : List S55 := orderL aheadI z55 l.length (items l)
theorem ordered_len (l : List S27) : (ordered l).length = l.length := by
  have := (order_perm (d := z55) aheadI_weak l.length (items l) (items_len l)).length_eq
  rw [items_len] at this
  exact this
theorem items_map (l : List S27) : (items l).map (fun x => toR x.f0) = l.map toR := by
  apply List.ext_getElem
  · simp [items_len]
  · intro i h1 h2
    have hi : i < l.length := by simpa using h2
    simp [items, row, itemF, List.getD, hi]
theorem order_both (l : List S27) : orderL a39 z39 (l.map toR).length (l.map toR) = (ordered l).map (fun x => toR x.f0) := by
  have h := order_map (l1 := aheadI) (l2 := a39) (φ := fun x : S55 => toR x.f0) (fun a b => rfl) z55 l.length (items l)
  rw [items_map] at h
  rw [List.length_map]
  exact h
theorem runK : ∀ (L : List S55) (k : Int), 1 ≤ k → k ≤ 9223372036854775807 → runL stepK L k = (L.map (fun x => x.f0.f0)).take k.toNat
  | [], k, _, _ => by simp [runL]
  | x :: xs, k, h1, h2 => by
    have hw : wrap64 (k - 1) = k - 1 := by unfold wrap64; omega
    have e : k.toNat = (k - 1).toNat + 1 := by omega
    rw [runL, e, List.map_cons, List.take_succ_cons]
    congr 1
    show (if decide (0 < wrap64 (k - 1)) = true then runL stepK xs (wrap64 (k - 1)) else []) = _
    rw [hw]
    by_cases c : 0 < k - 1
    · rw [if_pos (by simpa using c), runK xs (k - 1) (by omega) (by omega)]
    · rw [if_neg (by simpa using c), show (k - 1).toNat = 0 by omega, List.take_zero]
theorem order_swap {d e : Ieee.Datum} (h : d.order e = some .gt) : e.order d = some .lt := by
  obtain ⟨B, M, hM, hW⟩ := within_all [d, e]
  have wd := hW d (by simp)
  have we := hW e (by simp)
  have h1 := order_key hM d e wd we
  have h2 := order_key hM e d we wd
  rw [h] at h1
  by_cases c : nanD d = true ∨ nanD e = true
  · rw [if_pos c] at h1; cases h1
  · rw [if_neg c] at h1
    rw [h2, if_neg (fun q => c q.symm)]
    have h3 : compare (keyD B M d) (keyD B M e) = .gt := (Option.some.inj h1).symm
    have h4 : keyD B M e < keyD B M d := by
      rcases Int.lt_trichotomy (keyD B M d) (keyD B M e) with q | q | q
      · rw [cmp_lt q] at h3; cases h3
      · rw [q, cmp_eq] at h3; cases h3
      · exact q
    rw [cmp_lt h4]
theorem order_some (d e : Ieee.Datum) (hd : nanD d = false) (he : nanD e = false) : ∃ o, d.order e = some o := by
  obtain ⟨B, M, hM, hW⟩ := within_all [d, e]
  have h1 := order_key hM d e (hW d (by simp)) (hW e (by simp))
  rw [if_neg (by simp [hd, he])] at h1
  exact ⟨_, h1⟩
theorem need_both (need : Nat) : (nanD (F64.read need) || leF need 0) = !gtF need 0 := by
  cases hn : nanD (F64.read need) with
  | true => rw [gtF_nan hn]; rfl
  | false =>
    have h0 : nanD (F64.read 0) = false := by decide +kernel
    obtain ⟨o, ho⟩ := order_some _ _ hn h0
    have ho' : F64.order need 0 = some o := ho
    unfold leF gtF
    rw [ho']
    cases o <;> rfl
theorem runU (need : Nat) : ∀ (L : List S55) (q : Nat), ltF q need = true → runL (stepU need) L q = untilL need (L.map (fun x => toR x.f0)) q
  | [], q, _ => rfl
  | x :: xs, q, h => by
    rw [runL, List.map_cons, untilL, h, if_pos rfl]
    congr 1
    show (if (stepU need q x.f0).1 = true then runL (stepU need) xs (stepU need q x.f0).2 else []) = if gtF x.f0.f1 0 = true then (match F64.add q x.f0.f1 with | some q' => untilL need (xs.map (fun x => toR x.f0)) q' | none => []) else untilL need (xs.map (fun x => toR x.f0)) q
    unfold stepU
    cases hg : gtF x.f0.f1 0 with
    | false =>
      show (if ltF q need = true then runL (stepU need) xs q else []) = untilL need (xs.map (fun x => toR x.f0)) q
      rw [if_pos h, runU need xs q h]
    | true =>
      rw [if_pos rfl, if_pos rfl]
      cases ha : F64.add q x.f0.f1 with
      | none => rfl
      | some q' =>
        show (if ltF q' need = true then runL (stepU need) xs q' else []) = untilL need (xs.map (fun x => toR x.f0)) q'
        cases hl : ltF q' need with
        | true => rw [if_pos rfl, runU need xs q' hl]
        | false => rw [if_neg (by simp), until_nan need q' hl]
theorem files_map (L : List S55) : (L.map (fun x => toR x.f0)).map (·.f0) = L.map (fun x => x.f0.f0) := by simp [toR]
theorem untilL_len (need : Nat) : ∀ (L : List S39) (q : Nat), (untilL need L q).length ≤ L.length
  | [], _ => by simp [untilL]
  | x :: xs, q => by
    rw [untilL]
    split
    · simp only [List.length_cons]
      have h1 := fun z => untilL_len need xs z
      split
      · split
        · have := h1 ‹Nat›; omega
        · simp
      · have := h1 q; omega
    · simp
/-- THE PLAIN LAW: of at most 40 loads the heap's first ones are the document's, up to any number and until there is enough. -/
theorem evict_pure (l : List S27) (k : Int) (need : Nat) (hl : l.length ≤ 40) (hk : k ≤ 9223372036854775807) : ∃ K r1 r2, bosunlaw24_of.f K l = some (l.map toR) ∧ evict_First.f l k = some r1 ∧ bosunref24_First.f K (l.map toR) k = some r1 ∧ evict_Until.f l need = some r2 ∧ bosunref24_Until.f K (l.map toR) need = some r2 ∧
    bosunlaw24_texts.f K r1 r1 = some true ∧ bosunlaw24_texts.f K r2 r2 = some true := by
  obtain ⟨K1, hK1⟩ := order_f (l.map toR) (by simp; omega)
  rw [order_both] at hK1
  have hol : ((ordered l).map (fun x => toR x.f0)).length = l.length := by rw [List.length_map, ordered_len]
  have hr : pops lessI l.length (heapOf l) = ordered l := pops_items l
  -- First
  have hF : evict_First.f l k = some (((ordered l).map (fun x => x.f0.f0)).take k.toNat) := by
    unfold evict_First.f
    by_cases c : k < 1
    · rw [if_pos c, show k.toNat = 0 by omega, List.take_zero]
    · rw [if_neg c, takeL_run, hr, runK _ k (by omega) hk]
  have hRF : ∀ K, K1 ≤ K → l.length + 1 ≤ K → bosunref24_First.f K (l.map toR) k = some (((ordered l).map (fun x => x.f0.f0)).take k.toNat) := by
    intro K h1 h2
    unfold bosunref24_First.f
    rw [lift_ (fun K => bosunref24_Order.f K (l.map toR)) (bosunref24_Order.mono _) hK1 K h1, Option.bind_some]
    have h3 := first_l0 k ((ordered l).map (fun x => toR x.f0)) (by omega) l.length 0 [] (by omega) (by simp)
    have h4 : bosunref24_First.l0 (l.length + 1) k [] ((ordered l).map (fun x => toR x.f0)) 0 = some (((ordered l).map (fun x => x.f0.f0)).take k.toNat) := by
      have e : (k - ((0 : Nat) : Int)).toNat = k.toNat := by omega
      rw [List.nil_append, List.drop_zero, e, List.map_take, files_map] at h3
      exact h3
    exact lift_ (fun K => bosunref24_First.l0 K k [] ((ordered l).map (fun x => toR x.f0)) 0) (fun K => bosunref24_First.mono_l K _ _ _ _) h4 K h2
  -- Until
  obtain ⟨r2, hU, hRU, hr2⟩ : ∃ r2, evict_Until.f l need = some r2 ∧ (∀ K, K1 ≤ K → bosunref24_Until.f K (l.map toR) need = some r2) ∧ r2.length ≤ 40 := by
    unfold evict_Until.f
    cases hg : gtF need 0 with
    | false =>
      refine ⟨[], rfl, fun K _ => ?_, by simp⟩
      unfold bosunref24_Until.f
      rw [need_both, hg, if_pos (by rfl)]
    | true =>
      have hlt : ltF 0 need = true := by
        have h1 : F64.order need 0 = some .gt := by simpa [gtF] using hg
        have h2 : F64.order 0 need = some .lt := order_swap h1
        unfold ltF
        rw [h2]; rfl
      refine ⟨untilL need ((ordered l).map (fun x => toR x.f0)) 0, ?_, fun K h1 => ?_, ?_⟩
      · rw [if_pos rfl, takeL_run, hr, runU need _ 0 hlt]
      · unfold bosunref24_Until.f
        rw [need_both, hg, if_neg (by simp), lift_ (fun K => bosunref24_Order.f K (l.map toR)) (bosunref24_Order.mono _) hK1 K h1, Option.bind_some, if_pos (by omega)]
      · have := untilL_len need ((ordered l).map (fun x => toR x.f0)) 0; omega
  have hr1 : (((ordered l).map (fun x => x.f0.f0)).take k.toNat).length ≤ 40 := by
    have h1 := List.length_take_le k.toNat ((ordered l).map (fun x => x.f0.f0))
    have h2 : ((ordered l).map (fun x => x.f0.f0)).length = l.length := by rw [List.length_map, ordered_len]
    have h3 := List.length_take_le' k.toNat ((ordered l).map (fun x => x.f0.f0))
    omega
  refine ⟨K1 + 100, _, r2, ?_, hF, hRF _ (by omega) (by omega), hU, hRU _ (by omega), ?_, ?_⟩
  · exact lift_ (fun K => bosunlaw24_of.f K l) (bosunlaw24_of.mono l) (of_f l (by omega)) _ (by omega)
  · exact lift_ (fun K => bosunlaw24_texts.f K _ _) (bosunlaw24_texts.mono _ _) (texts_f _ (by omega)) _ (by omega)
  · exact lift_ (fun K => bosunlaw24_texts.f K r2 r2) (bosunlaw24_texts.mono _ _) (texts_f _ (by omega)) _ (by omega)
end Go.Proofs.Ythnbkhggbfnpcaa.Ev
