/- The document's likeness of values: that by structure. Plain lemmas. No conditions beside those stated. -/
import Derived.Test.YtnkkbiabloodaaaDoorVaAlike
import Derived.Test.YtnkkbiabloodaaaDoorGVax8
namespace Go.Proofs.YtnkkbiabloodaaaDoor.GVa
open Go.RowKit Go.Proofs.YtnkkbiabloodaaaDoorW.PrintWords Go.Proofs.YtnkkbiabloodaaaDoorW.PrintLast Go.Proofs.YtnkkbiabloodaaaDoorW.PrintMore
set_option linter.unusedVariables false
set_option linter.unusedSimpArgs false
abbrev SV := S29
abbrev SP := S48
theorem r0 (y : SV) : (toR y).f0 = y.f0 := by cases y; rfl
theorem r1 (y : SV) : (toR y).f1 = y.f1 := by cases y; rfl
theorem r2 (y : SV) : (toR y).f2 = y.f2 := by cases y; rfl
theorem r3 (y : SV) : (toR y).f3 = y.f3 := by cases y; rfl
theorem r4 (y : SV) : (toR y).f4 = cZ y.f4 := by cases y; rfl
theorem r5 (y : SV) : (toR y).f5 = dz y.f5 := by cases y; rfl
theorem oI (a : List SP) (i : Int) : aV (dz a) i = ⟨(aC a i).f0, toR (aC a i).f1⟩ := by
  unfold aV aC
  rw [jd, List.getD_eq_getElem?_getD, List.getD_eq_getElem?_getD, List.getElem?_map]
  cases a[i.toNat]? with
  | none => rfl
  | some v => rfl
theorem tK {K : Nat} {S : SV → SV → Bool} (a0 : Int) (a1 : Bool) (a2 : Int) (a3 : ByteArray) (a5) (b0 : Int) (b1 : Bool) (b2 : Int) (b3 : ByteArray) (b5) (h5 : ¬ a0 = 5) : ∀ (s t l m : List SV) (j k : Nat), l.drop j = s → m.drop j = t → l.length = m.length → l.length ≤ 1000 →
    (∀ x ∈ s, ∀ y ∈ t, ∀ k, K ≤ k → aJ.f k x.f0 x.f1 x.f2 x.f3 (cZ x.f4) (dz x.f5) y.f0 y.f1 y.f2 y.f3 (cZ y.f4) (dz y.f5) = some (S x y)) → K + s.length + 2 ≤ k → aJ.l0 k (j : Int) a0 a1 a2 a3 (cZ l) a5 b0 b1 b2 b3 (cZ m) b5 = some (eqL S s t)
 | s, t, l, m, j, 0, h, h2, hl, hn, hs, hk => by omega
 | [], t, l, m, j, k + 1, h, h2, hl, hn, hs, hk => by
   have hj := drop_nil h
   obtain ⟨k, rfl⟩ : ∃ q, k = q + 1 := ⟨k - 1, by omega⟩
   rw [aJ.l0, dW, if_neg (by omega), aJ.j2, if_neg h5, eqL]
   intro x l' y m' e; cases e
 | x :: s, [], l, m, j, k + 1, h, h2, hl, hn, hs, hk => by
   have hj := (fD (z := x) h).1
   have hj2 := drop_nil h2
   omega
 | x :: s, y :: t, l, m, j, k + 1, h, h2, hl, hn, hs, hk => by
   obtain ⟨hj, hr, hd⟩ := fD (z := z29) h
   obtain ⟨hj2, hr2, hd2⟩ := fD (z := z29) h2
   have hr' : aH l (j : Int) = x := hr
   have hr2' : aH m (j : Int) = y := hr2
   rw [aJ.l0, dW, dW, if_pos (by omega), if_pos (by omega), if_pos (by omega), kV, kV, hr', hr2', r0, r1, r2, r3, r4, r5, r0, r1, r2, r3, r4, r5, hs x (List.mem_cons_self ..) y (List.mem_cons_self ..) k (by simp at hk; omega), eqL]
   show (if S x y = true then aJ.l0 k (wrap64 ((j : Int) + 1)) a0 a1 a2 a3 (cZ l) a5 b0 b1 b2 b3 (cZ m) b5 else some false) = _
   split
   · rw [gJ (by omega), tK a0 a1 a2 a3 a5 b0 b1 b2 b3 b5 h5 s t l m (j + 1) k hd hd2 hl hn (fun x hx y hy => hs x (List.mem_cons_of_mem _ hx) y (List.mem_cons_of_mem _ hy)) (by simp at hk; omega)]
     rename_i he; rw [he, Bool.true_and]
   · rename_i he; rw [Bool.eq_false_iff.2 he, Bool.false_and]
theorem tL {K : Nat} {S : SV → SV → Bool} (a0 : Int) (a1 : Bool) (a2 : Int) (a3 : ByteArray) (a4) (b0 : Int) (b1 : Bool) (b2 : Int) (b3 : ByteArray) (b4) : ∀ (s t l m : List SP) (j k : Nat), l.drop j = s → m.drop j = t → l.length = m.length → l.length ≤ 1000 →
    (∀ p ∈ s, ∀ q ∈ t, ∀ k, K ≤ k → aJ.f k p.f1.f0 p.f1.f1 p.f1.f2 p.f1.f3 (cZ p.f1.f4) (dz p.f1.f5) q.f1.f0 q.f1.f1 q.f1.f2 q.f1.f3 (cZ q.f1.f4) (dz q.f1.f5) = some (S p.f1 q.f1)) → K + s.length + 1 ≤ k → aJ.l1 k (j : Int) a0 a1 a2 a3 a4 (dz l) b0 b1 b2 b3 b4 (dz m) = some (eqL (fun p q : SP => decide (p.f0.toList = q.f0.toList) && S p.f1 q.f1) s t)
 | s, t, l, m, j, 0, h, h2, hl, hn, hs, hk => by omega
 | [], t, l, m, j, k + 1, h, h2, hl, hn, hs, hk => by
   have hj := drop_nil h
   rw [aJ.l1, iK, if_neg (by omega), eqL]
   intro x l' y m' e; cases e
 | x :: s, [], l, m, j, k + 1, h, h2, hl, hn, hs, hk => by
   have hj := (fD (z := x) h).1
   have hj2 := drop_nil h2
   omega
 | x :: s, y :: t, l, m, j, k + 1, h, h2, hl, hn, hs, hk => by
   obtain ⟨hj, hr, hd⟩ := fD (z := z48) h
   obtain ⟨hj2, hr2, hd2⟩ := fD (z := z48) h2
   have hr' : aC l (j : Int) = x := hr
   have hr2' : aC m (j : Int) = y := hr2
   rw [aJ.l1, iK, iK, if_pos (by omega), if_pos (by omega), if_pos (by omega), oI, oI, hr', hr2', eqL]
   show (if x.f0.toList = y.f0.toList then ((aJ.f k (toR x.f1).f0 (toR x.f1).f1 (toR x.f1).f2 (toR x.f1).f3 (toR x.f1).f4 (toR x.f1).f5 (toR y.f1).f0 (toR y.f1).f1 (toR y.f1).f2 (toR y.f1).f3 (toR y.f1).f4 (toR y.f1).f5).bind fun t => if t = true then aJ.l1 k (wrap64 ((j : Int) + 1)) a0 a1 a2 a3 a4 (dz l) b0 b1 b2 b3 b4 (dz m) else some false) else some false) = _
   split
   · rename_i hkey
     rw [r0, r1, r2, r3, r4, r5, r0, r1, r2, r3, r4, r5, hs x (List.mem_cons_self ..) y (List.mem_cons_self ..) k (by simp at hk; omega), decide_eq_true hkey, Bool.true_and]
     show (if S x.f1 y.f1 = true then aJ.l1 k (wrap64 ((j : Int) + 1)) a0 a1 a2 a3 a4 (dz l) b0 b1 b2 b3 b4 (dz m) else some false) = _
     split
     · rw [gJ (by omega), tL a0 a1 a2 a3 a4 b0 b1 b2 b3 b4 s t l m (j + 1) k hd hd2 hl hn (fun x hx y hy => hs x (List.mem_cons_of_mem _ hx) y (List.mem_cons_of_mem _ hy)) (by simp at hk; omega)]
       rename_i he; rw [he, Bool.true_and]
     · rename_i he; rw [Bool.eq_false_iff.2 he, Bool.false_and]
   · rename_i hkey
     rw [decide_eq_false hkey, Bool.false_and, Bool.false_and]
theorem vQ : ∀ (n : Nat) (x y : SV), Ok n x → Ok n y → ∀ k, n * 1100 ≤ k → aJ.f k x.f0 x.f1 x.f2 x.f3 (cZ x.f4) (dz x.f5) y.f0 y.f1 y.f2 y.f3 (cZ y.f4) (dz y.f5) = some (smN n x y) := by
  intro n
  induction n with
  | zero => exact fun x y h _ _ _ => h.elim
  | succ n ih =>
    intro x y hx hy k hk
    obtain ⟨k, rfl⟩ : ∃ q, k = q + 3 := ⟨k - 3, by omega⟩
    rw [aJ.f, smN]
    by_cases h0 : x.f0 = y.f0
    · rw [if_pos h0, if_pos h0]
      have hF : ∀ b, aJ.j0 (k + 2) b x.f0 x.f1 x.f2 x.f3 (cZ x.f4) (dz x.f5) y.f0 y.f1 y.f2 y.f3 (cZ y.f4) (dz y.f5) = if b = true then some false else (if x.f0 = 4 then some (decide (x.f4.length = y.f4.length) && eqL (smN n) x.f4 y.f4) else if x.f0 = 5 then some (decide (x.f5.length = y.f5.length) && eqL (fun p q : SP => decide (p.f0.toList = q.f0.toList) && smN n p.f1 q.f1) x.f5 y.f5) else some true) := by
        intro b
        rw [aJ.j0, dW, dW]
        split
        · rfl
        · by_cases h4 : x.f0 = 4
          · rw [if_pos h4, if_pos h4]
            by_cases hl : x.f4.length = y.f4.length
            · rw [if_pos (by omega), decide_eq_true hl, Bool.true_and]
              exact tK (K := n * 1100) x.f0 x.f1 x.f2 x.f3 _ y.f0 y.f1 y.f2 y.f3 _ (by omega) x.f4 y.f4 x.f4 y.f4 0 (k + 1) rfl rfl hl hx.2.1 (fun a ha b hb k hk => ih a b (hx.2.2.2.1 a ha) (hy.2.2.2.1 b hb) k hk) (by have := hx.2.1; omega)
            · rw [if_neg (by omega), decide_eq_false hl, Bool.false_and]
          · rw [if_neg h4, if_neg h4, aJ.j2, iK, iK]
            by_cases h5 : x.f0 = 5
            · rw [if_pos h5, if_pos h5]
              by_cases hl : x.f5.length = y.f5.length
              · rw [if_pos (by omega), decide_eq_true hl, Bool.true_and]
                exact tL (K := n * 1100) x.f0 x.f1 x.f2 x.f3 _ y.f0 y.f1 y.f2 y.f3 _ x.f5 y.f5 x.f5 y.f5 0 k rfl rfl hl hx.2.2.1 (fun a ha b hb k hk => ih a.f1 b.f1 (hx.2.2.2.2 a ha).2 (hy.2.2.2.2 b hb).2 k hk) (by have := hx.2.2.1; omega)
              · rw [if_neg (by omega), decide_eq_false hl, Bool.false_and]
            · rw [if_neg h5, if_neg h5]
      by_cases h1 : x.f0 = 1
      · rw [if_pos h1, if_pos h1, if_neg (show ¬ x.f0 = 2 by omega), if_neg (show ¬ x.f0 = 3 by omega), hF, hF, if_pos rfl, if_neg (show ¬ (false = true) by decide), if_neg (show ¬ x.f0 = 4 by omega), if_neg (show ¬ x.f0 = 5 by omega)]
        cases x.f1 <;> cases y.f1 <;> rfl
      · rw [if_neg h1, if_neg h1]
        by_cases h2 : x.f0 = 2
        · rw [if_pos h2, if_pos h2, if_neg (show ¬ x.f0 = 3 by omega), hF, hF, if_pos rfl, if_neg (show ¬ (false = true) by decide), if_neg (show ¬ x.f0 = 4 by omega), if_neg (show ¬ x.f0 = 5 by omega)]
          split
          · rename_i he; rw [he, beq_self_eq_true]
          · rename_i he; rw [beq_eq_false_iff_ne.2 he]
        · rw [if_neg h2, if_neg h2]
          by_cases h3 : x.f0 = 3
          · rw [if_pos h3, if_pos h3, hF, if_neg (show ¬ x.f0 = 4 by omega), if_neg (show ¬ x.f0 = 5 by omega)]
            by_cases he : x.f3.toList = y.f3.toList
            · rw [he, beq_self_eq_true, bne_self_eq_false]; rfl
            · rw [beq_eq_false_iff_ne.2 he, bne_iff_ne.2 he]; rfl
          · rw [if_neg h3, if_neg h3, hF, if_neg (show ¬ (false = true) by decide)]
            split
            · rfl
            · split <;> rfl
    · rw [if_neg h0, if_neg h0, aJ.j0, if_pos rfl]
end Go.Proofs.YtnkkbiabloodaaaDoor.GVa
