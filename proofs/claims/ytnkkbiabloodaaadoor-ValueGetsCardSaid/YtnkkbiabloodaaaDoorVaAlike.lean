/- Two values alike (plain), the parts' values, and the program's functions over them. No conditions beside those stated. -/
import Derived.Test.YtnkkbiabloodaaaDoorVaPlain
namespace Go.Proofs.YtnkkbiabloodaaaDoor.GVa
open Go.RowKit Go.Proofs.YtnkkbiabloodaaaDoorW.PrintWords Go.Proofs.YtnkkbiabloodaaaDoorW.PrintLast Go.Proofs.YtnkkbiabloodaaaDoorW.PrintMore
set_option linter.unusedVariables false
set_option linter.unusedSimpArgs false
def eqL {α : Type} (S : α → α → Bool) : List α → List α → Bool
 | x :: l, y :: m => S x y && eqL S l m
 | _, _ => true
def smN : Nat → S29 → S29 → Bool
 | 0, _, _ => false
 | n + 1, x, y => if x.f0 = y.f0 then (if x.f0 = 1 then x.f1 == y.f1 else if x.f0 = 2 then x.f2 == y.f2 else if x.f0 = 3 then x.f3.toList == y.f3.toList else if x.f0 = 4 then decide (x.f4.length = y.f4.length) && eqL (smN n) x.f4 y.f4 else if x.f0 = 5 then decide (x.f5.length = y.f5.length) && eqL (fun p q : S48 => decide (p.f0.toList = q.f0.toList) && smN n p.f1 q.f1) x.f5 y.f5 else true) else false
theorem tq {FS : Int → Bool → Int → ByteArray → List (S29) → List (S48) → Int → Bool → Int → ByteArray → List (S29) → List (S48) → Option Bool} {S : S29 → S29 → Bool} : ∀ (s t l m : List S29) (j k : Nat), l.drop j = s → m.drop j = t → l.length = m.length → l.length ≤ 1000 →
    (∀ x ∈ s, ∀ y ∈ t, FS x.f0 x.f1 x.f2 x.f3 x.f4 x.f5 y.f0 y.f1 y.f2 y.f3 y.f4 y.f5 = some (S x y)) → s.length + 1 ≤ k → bS.l0 FS k m l (l.length : Int) (j : Int) = some (eqL S s t)
 | s, t, l, m, j, 0, h, h2, hl, hn, hs, hk => by omega
 | [], t, l, m, j, k + 1, h, h2, hl, hn, hs, hk => by
   have hj := drop_nil h
   rw [bS.l0, if_neg (by omega), eqL]
   intro x l' y m' e; cases e
 | x :: s, [], l, m, j, k + 1, h, h2, hl, hn, hs, hk => by
   have hj := (fD (z := x) h).1
   have hj2 := drop_nil h2
   omega
 | x :: s, y :: t, l, m, j, k + 1, h, h2, hl, hn, hs, hk => by
   obtain ⟨hj, hr, hd⟩ := fD (z := z29) h
   obtain ⟨hj2, hr2, hd2⟩ := fD (z := z29) h2
   have hr' : aH l (j : Int) = x := hr
   have hr2' : aH m (j : Int) = y := hr2
   rw [bS.l0, if_pos (by omega), if_pos (by omega), if_pos (by omega), if_pos (by omega), hr', hr2', hs x (List.mem_cons_self ..) y (List.mem_cons_self ..), eqL]
   show (if S x y = true then bS.l0 FS k m l (l.length : Int) (wrap64 ((j : Int) + 1)) else some false) = _
   split
   · rw [gJ (by omega), tq s t l m (j + 1) k hd hd2 hl hn (fun x hx y hy => hs x (List.mem_cons_of_mem _ hx) y (List.mem_cons_of_mem _ hy)) (by simp at hk; omega)]
     rename_i he; rw [he, Bool.true_and]
   · rename_i he; rw [Bool.eq_false_iff.2 he, Bool.false_and]
theorem tu {FS : ByteArray → Int → Bool → Int → ByteArray → List (S29) → List (S48) → ByteArray → Int → Bool → Int → ByteArray → List (S29) → List (S48) → Option Bool} {S : S48 → S48 → Bool} : ∀ (s t l m : List S48) (j k : Nat), l.drop j = s → m.drop j = t → l.length = m.length → l.length ≤ 1000 →
    (∀ x ∈ s, ∀ y ∈ t, FS x.f0 x.f1.f0 x.f1.f1 x.f1.f2 x.f1.f3 x.f1.f4 x.f1.f5 y.f0 y.f1.f0 y.f1.f1 y.f1.f2 y.f1.f3 y.f1.f4 y.f1.f5 = some (S x y)) → s.length + 1 ≤ k → bR.l0 FS k m l (l.length : Int) (j : Int) = some (eqL S s t)
 | s, t, l, m, j, 0, h, h2, hl, hn, hs, hk => by omega
 | [], t, l, m, j, k + 1, h, h2, hl, hn, hs, hk => by
   have hj := drop_nil h
   rw [bR.l0, if_neg (by omega), eqL]
   intro x l' y m' e; cases e
 | x :: s, [], l, m, j, k + 1, h, h2, hl, hn, hs, hk => by
   have hj := (fD (z := x) h).1
   have hj2 := drop_nil h2
   omega
 | x :: s, y :: t, l, m, j, k + 1, h, h2, hl, hn, hs, hk => by
   obtain ⟨hj, hr, hd⟩ := fD (z := z48) h
   obtain ⟨hj2, hr2, hd2⟩ := fD (z := z48) h2
   have hr' : aC l (j : Int) = x := hr
   have hr2' : aC m (j : Int) = y := hr2
   rw [bR.l0, if_pos (by omega), if_pos (by omega), if_pos (by omega), if_pos (by omega), hr', hr2', hs x (List.mem_cons_self ..) y (List.mem_cons_self ..), eqL]
   show (if S x y = true then bR.l0 FS k m l (l.length : Int) (wrap64 ((j : Int) + 1)) else some false) = _
   split
   · rw [gJ (by omega), tu s t l m (j + 1) k hd hd2 hl hn (fun x hx y hy => hs x (List.mem_cons_of_mem _ hx) y (List.mem_cons_of_mem _ hy)) (by simp at hk; omega)]
     rename_i he; rw [he, Bool.true_and]
   · rename_i he; rw [Bool.eq_false_iff.2 he, Bool.false_and]
set_option maxRecDepth 100000 in
theorem xM : ∀ (n : Nat) (x y : S29), Ok n x → Ok n y → ∀ k, n * 1100 ≤ k → dD.f k x.f0 x.f1 x.f2 x.f3 x.f4 x.f5 y.f0 y.f1 y.f2 y.f3 y.f4 y.f5 = some (smN n x y) := by
  intro n
  induction n with
  | zero => exact fun x y h _ _ _ => h.elim
  | succ n ih =>
    intro x y hx hy k hk
    obtain ⟨k, rfl⟩ : ∃ q, k = q + 1 := ⟨k - 1, by omega⟩
    rw [dD.f, smN]
    unfold dO.f
    dsimp only
    split
    · split
      · rfl
      · split
        · rfl
        · split
          · rfl
          · split
            · have hz : bS.f (dD.f k) k x.f4 y.f4 = some (decide (x.f4.length = y.f4.length) && eqL (smN n) x.f4 y.f4) := by
                rw [bS.f]
                split
                · rename_i hl
                  have hl' : x.f4.length = y.f4.length := by omega
                  rw [decide_eq_true hl', Bool.true_and]
                  exact tq x.f4 y.f4 x.f4 y.f4 0 k rfl rfl hl' hx.2.1 (fun a ha b hb => ih a b (hx.2.2.2.1 a ha) (hy.2.2.2.1 b hb) k (by omega)) (by have := hx.2.1; omega)
                · rename_i hl
                  rw [decide_eq_false (fun e => hl (by rw [e])), Bool.false_and]
              rw [hz]; rfl
            · split
              · have hz : bR.f (dn.f (dD.f k)) k x.f5 y.f5 = some (decide (x.f5.length = y.f5.length) && eqL (fun p q : S48 => decide (p.f0.toList = q.f0.toList) && smN n p.f1 q.f1) x.f5 y.f5) := by
                  rw [bR.f]
                  split
                  · rename_i hl
                    have hl' : x.f5.length = y.f5.length := by omega
                    rw [decide_eq_true hl', Bool.true_and]
                    refine tu x.f5 y.f5 x.f5 y.f5 0 k rfl rfl hl' hx.2.2.1 (fun a ha b hb => ?_) (by have := hx.2.2.1; omega)
                    rw [dn.f, ih a.f1 b.f1 (hx.2.2.2.2 a ha).2 (hy.2.2.2.2 b hb).2 k (by omega)]
                    split
                    · rename_i he; rw [decide_eq_true he, Bool.true_and]; rfl
                    · rename_i he; rw [decide_eq_false he, Bool.false_and]
                  · rename_i hl
                    rw [decide_eq_false (fun e => hl (by rw [e])), Bool.false_and]
                rw [hz]; rfl
              · rfl
    · rfl
theorem nu {α : Type} {S : α → α → Bool} : ∀ l : List α, (∀ x ∈ l, S x x = true) → eqL S l l = true
 | [], _ => rfl
 | x :: l, h => by rw [eqL, h x (List.mem_cons_self ..), nu l (fun y hy => h y (List.mem_cons_of_mem _ hy))]; rfl
theorem qM : ∀ (n : Nat) (x : S29), Ok n x → smN n x x = true := by
  intro n
  induction n with
  | zero => exact fun x h => h.elim
  | succ n ih =>
    intro x h
    rw [smN, if_pos rfl]
    split
    · exact beq_self_eq_true _
    · split
      · exact beq_self_eq_true _
      · split
        · exact beq_self_eq_true _
        · split
          · rw [decide_eq_true rfl, nu _ (fun y hy => ih y (h.2.2.2.1 y hy))]; rfl
          · split
            · rw [decide_eq_true rfl, nu _ (fun p hp => by rw [decide_eq_true rfl, ih _ (h.2.2.2.2 p hp).2]; rfl)]; rfl
            · rfl
structure Near (x y : S29) : Prop where
  k : x.f0 = y.f0
  a : x.f0 = 1 → x.f1 = y.f1
  b : x.f0 = 2 → x.f2 = y.f2
  c : x.f0 = 3 → x.f3 = y.f3
  l : x.f4 = y.f4
  p : x.f5 = y.f5
theorem Near.same {n : Nat} {x y : S29} (h : Near x y) (hx : Ok n x) : smN n x y = true := by
  cases n with
  | zero => exact hx.elim
  | succ n =>
    have hs := qM (n + 1) x hx
    rw [smN, if_pos rfl] at hs
    rw [smN, if_pos h.k, ← h.l, ← h.p]
    by_cases h1 : x.f0 = 1
    · rw [if_pos h1, h.a h1]; exact beq_self_eq_true _
    · rw [if_neg h1] at hs ⊢
      by_cases h2 : x.f0 = 2
      · rw [if_pos h2, h.b h2]; exact beq_self_eq_true _
      · rw [if_neg h2] at hs ⊢
        by_cases h3 : x.f0 = 3
        · rw [if_pos h3, h.c h3]; exact beq_self_eq_true _
        · rw [if_neg h3] at hs ⊢
          exact hs
theorem Near.symm {x y : S29} (h : Near x y) : Near y x := ⟨h.k.symm, fun e => (h.a (h.k.trans e)).symm, fun e => (h.b (h.k.trans e)).symm, fun e => (h.c (h.k.trans e)).symm, h.l.symm, h.p.symm⟩
theorem Near.prt {x y : S29} (h : Near x y) : prt x = prt y := by unfold GVa.prt; rw [h.k, h.l, h.p]
theorem Near.dep {x y : S29} (h : Near x y) (n : Nat) : ni n x = ni n y := by
  cases n with
  | zero => rfl
  | succ n => unfold ni; rw [h.k, h.prt]
theorem Near.wr {x y : S29} (h : Near x y) (n : Nat) : wrN n x = wrN n y := by
  cases n with
  | zero => rfl
  | succ n =>
    have he : wrE x = wrE y := by
      unfold wrE
      by_cases h3 : x.f0 = 3
      · rw [h.c h3, h.k, h.p]
      · have h3' : ¬ y.f0 = 3 := fun e => h3 (h.k.trans e)
        rw [h.k, h.p, if_neg h3', if_neg h3']
    unfold wrN; rw [he, h.prt]
theorem tC : dH.f 12 = some true := by decide +kernel
theorem tF : ∀ k, 12 ≤ k → dH.f k = some true := by
  intro k hk
  induction hk with
  | refl => exact tC
  | step _ ih => exact dH.mono _ _ ih
theorem qh {n a m : Int} (hn : 0 ≤ n) (hn2 : n ≤ 40000) (ha : 0 ≤ a) (ha2 : a ≤ 140737488351232) : wrap64 (n + wrap64 (a * (1 + mx 0 (mn m 80)))) = n + a * (1 + mx 0 (mn m 80)) ∧ a ≤ a * (1 + mx 0 (mn m 80)) := by
  obtain ⟨q, hq, hq0, hq1⟩ : ∃ q, mx 0 (mn m 80) = q ∧ 0 ≤ q ∧ q ≤ 80 := ⟨_, rfl, by unfold mx mn; split <;> split <;> omega, by unfold mx mn; split <;> split <;> omega⟩
  rw [hq]
  have h1 : a * (1 + q) = a + a * q := by rw [Int.mul_add, Int.mul_one]
  have h2 : 0 ≤ a * q := Int.mul_nonneg ha hq0
  have h3 : a * q ≤ 140737488351232 * 80 := Int.mul_le_mul ha2 hq1 hq0 (by omega)
  rw [h1]
  have h4 : wrap64 (a + a * q) = a + a * q := by unfold wrap64; omega
  rw [h4]
  refine ⟨by unfold wrap64; omega, by omega⟩
theorem pI (x0 : List S75) : ∀ (s l : List S75) (j k : Nat) (n : Int), l.drop j = s → (l.length : Int) ≤ 1000000000000000 → (∀ p ∈ s, p.f4.size ≤ 140737488351232) → 0 ≤ n → n ≤ 40000 → s.length + 1 ≤ k → ∃ b, bJ.l0 k x0 n l (l.length : Int) (j : Int) = some b ∧ (b = true → x0.length ≤ 80 ∧ ∀ p ∈ s, p.f4.size ≤ 40000)
 | s, l, j, 0, n, h, hl, hs, h0, h1, hk => by omega
 | [], l, j, k + 1, n, h, hl, hs, h0, h1, hk => by
   have hj := drop_nil h
   refine ⟨_, by rw [bJ.l0, if_neg (by omega)], fun hb => ⟨by have := of_decide_eq_true hb; omega, fun p hp => by cases hp⟩⟩
 | p :: s, l, j, k + 1, n, h, hl, hs, h0, h1, hk => by
   obtain ⟨hj, hr, hd⟩ := fD (z := z75) h
   have hr' : fu l (j : Int) = p := hr
   have hp := hs p (List.mem_cons_self ..)
   obtain ⟨hw, hge⟩ := qh (m := p.f1) h0 h1 (show (0 : Int) ≤ (p.f4.size : Int) by omega) (by omega)
   rw [bJ.l0, if_pos (by omega), if_pos (by omega), if_pos (by omega), hr', hw]
   split
   · exact ⟨false, rfl, fun h => by cases h⟩
   · rename_i hle
     have hwj : wrap64 ((j : Int) + 1) = ((j + 1 : Nat) : Int) := iQ (by push_cast; rfl) (by omega)
     rw [hwj]
     obtain ⟨b, hb, hb2⟩ := pI x0 s l (j + 1) k (n + (p.f4.size : Int) * (1 + mx 0 (mn p.f1 80))) hd hl (fun q hq => hs q (List.mem_cons_of_mem _ hq)) (by omega) (by omega) (by simp at hk; omega)
     refine ⟨b, hb, fun h => ⟨(hb2 h).1, fun q hq => ?_⟩⟩
     rcases List.mem_cons.1 hq with rfl | hq
     · omega
     · exact (hb2 h).2 q hq
theorem vP {p : S75} (h : p.f4.size ≤ 40000) (i : Int) : ∃ s, eF.f p.f0 p.f1 p.f2 p.f3 p.f4 i = some s ∧ s.size ≤ 100000 := by
  have h1 : ∀ q : Int, (strOfNums [q]).size = 1 := fun q => rfl
  unfold eF.f
  split
  · refine ⟨p.f4 ++ strOfNums [97 + ((0 : Int) % 26)], ?_, ?_⟩
    · show (if p.f4.size + (strOfNums [97 + ((0 : Int) % 26)]).size ≤ 9223372036854775807 then some (p.f4 ++ strOfNums [97 + ((0 : Int) % 26)]) else none) = _
      rw [if_pos (by rw [h1]; omega)]
    · rw [ByteArray.size_append, h1]; omega
  · refine ⟨p.f4 ++ strOfNums [(wrap64 (97 + (Int.tmod i 26))) % 256], ?_, ?_⟩
    · show (if p.f4.size + (strOfNums [(wrap64 (97 + (Int.tmod i 26))) % 256]).size ≤ 9223372036854775807 then some (p.f4 ++ strOfNums [(wrap64 (97 + (Int.tmod i 26))) % 256]) else none) = _
      rw [if_pos (by rw [h1]; omega)]
    · rw [ByteArray.size_append, h1]; omega
theorem pJ {n : Nat} {p : S75} (h : p.f4.size ≤ 40000) : ∀ (m : List S29) (i : Int), (∀ v ∈ m, Ok n v) → ∃ r, mZ p i m = some r ∧ ∀ q ∈ r, q.f0.size ≤ 100000 ∧ Ok n q.f1
 | [], i, _ => ⟨[], rfl, fun q hq => by cases hq⟩
 | v :: l, i, hm => by
   obtain ⟨s, hs, hz⟩ := vP h i
   obtain ⟨r, hr, hq⟩ := pJ h l (i + 1) (fun w hw => hm w (List.mem_cons_of_mem _ hw))
   refine ⟨⟨s, v⟩ :: r, by rw [mZ, hs]; show (mZ p (i + 1) l).bind _ = _; rw [hr]; rfl, fun q hq2 => ?_⟩
   rcases List.mem_cons.1 hq2 with rfl | hq2
   · exact ⟨hz, hm v (List.mem_cons_self ..)⟩
   · exact hq q hq2
theorem uL {n : Nat} {p : S75} (h : p.f4.size ≤ 40000) {m : List S29} (hl : m.length ≤ 1000) (hm : ∀ v ∈ m, Ok n v) : ∃ X, bNew p m = some X ∧ Ok (n + 1) X := by
  unfold bNew
  split
  · exact ⟨_, rfl, by show p.f4.size ≤ _; omega, hl, Nat.zero_le _, hm, fun q hq => by cases hq⟩
  · obtain ⟨r, hr, hq⟩ := pJ (n := n) h m 0 hm
    rw [hr]
    exact ⟨_, rfl, by show p.f4.size ≤ _; omega, Nat.zero_le _, by show r.length ≤ _; rw [j4 hr]; exact hl, fun v hv => (by cases hv), hq⟩
theorem tH : ∀ (l : List S75) (n : Nat) (la : List S29), (∀ p ∈ l, p.f4.size ≤ 40000) → (∀ v ∈ la, Ok n v) → la.length + l.length ≤ 1000 → ∃ r, bGo l la = some r ∧ ∀ v ∈ r, Ok (n + l.length) v
 | [], n, la, _, hv, _ => ⟨la, rfl, hv⟩
 | p :: l, n, la, hp, hv, hl => by
   rw [List.length_cons] at hl
   obtain ⟨X, hX, hO⟩ := uL (n := n) (hp p (List.mem_cons_self ..)) (m := la.drop (la.length - bK p la.length)) (by rw [List.length_drop]; omega) (fun v hm => hv v (List.mem_of_mem_drop hm))
   obtain ⟨r, hr, hq⟩ := tH l (n + 1) (la.take (la.length - bK p la.length) ++ [X]) (fun q hq => hp q (List.mem_cons_of_mem _ hq)) (fun v hm => by
     rcases List.mem_append.1 hm with hm | hm
     · exact (hv v (List.mem_of_mem_take hm)).more
     · rw [List.mem_singleton.1 hm]; exact hO) (by rw [List.length_append, List.length_take, List.length_singleton]; omega)
   refine ⟨r, by rw [bGo, hX]; exact hr, fun v hm => ?_⟩
   rw [List.length_cons, Nat.add_comm l.length 1, ← Nat.add_assoc]
   exact hq v hm
theorem oH : Ok 1 z29 := ⟨by decide, by decide, by decide, fun v hv => (by cases hv), fun q hq => by cases hq⟩
theorem uM {l : List S75} (hl : l.length ≤ 80) (hp : ∀ p ∈ l, p.f4.size ≤ 40000) : ∃ x, qd l = some x ∧ Ok 82 x := by
  obtain ⟨r, hr, hq⟩ := tH l 1 [] hp (fun v hv => by cases hv) (by simp; omega)
  refine ⟨o9 r, by rw [qd, if_pos (by omega), hr]; rfl, ?_⟩
  unfold o9
  rw [List.getD_eq_getElem?_getD]
  cases h : r[r.length - 1]? with
  | none => exact oH.le (by omega)
  | some v => exact (hq v (List.mem_of_getElem? h)).le (by omega)
theorem tJ {l : List S75} (hl : l.length ≤ 1000000000000000) (hp : ∀ p ∈ l, p.f4.size ≤ 140737488351232) {k : Nat} (hk : l.length + 1 ≤ k) : ∃ b, bJ.f k l = some b ∧ (b = true → l.length ≤ 80 ∧ ∀ p ∈ l, p.f4.size ≤ 40000) :=
  pI l l l 0 k 0 rfl (by omega) hp (by omega) (by omega) hk
end Go.Proofs.YtnkkbiabloodaaaDoor.GVa
