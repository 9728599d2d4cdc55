/- The document's depth and errors of values: those by structure. Plain lemmas. No conditions beside those stated. -/
import Derived.Test.YtnkkbiabloodaaaDoorVaSameR
import Derived.Test.YtnkkbiabloodaaaDoorVaUtf
import Derived.Test.YtnkkbiabloodaaaDoorGVax9
import Derived.Test.YtnkkbiabloodaaaDoorGVax11
import Derived.Test.YtnkkbiabloodaaaDoorGVax12
namespace Go.Proofs.YtnkkbiabloodaaaDoor.GVa
open Go.RowKit Go.Proofs.YtnkkbiabloodaaaDoorW.PrintWords Go.Proofs.YtnkkbiabloodaaaDoorW.PrintLast Go.Proofs.YtnkkbiabloodaaaDoorW.PrintMore
set_option linter.unusedVariables false
set_option linter.unusedSimpArgs false
theorem xP (a b : Nat) : (if (b : Int) > (a : Int) then (b : Int) else (a : Int)) = ((max a b : Nat) : Int) := by split <;> omega
theorem qm {K : Nat} {D : SV → Nat} (hD : ∀ y, D y ≤ 1000000) (f0 : Int) (f1 : Bool) (f2 : Int) (f3 : ByteArray) (f5) : ∀ (s l : List SV) (j k a : Nat), l.drop j = s → l.length ≤ 1000 → a ≤ 1000000 → (∀ y ∈ s, ∀ k, K ≤ k → aV.f k y.f0 y.f1 y.f2 y.f3 (dK y.f4) (dN y.f5) = some (D y : Int)) → K + s.length + 1 ≤ k → aV.l0 k (a : Int) (j : Int) f0 f1 f2 f3 (dK l) f5 = some (((s.foldl (fun a y => max a (D y)) a + 1 : Nat)) : Int)
 | s, l, j, 0, a, h, hl, ha, hs, hk => by omega
 | [], l, j, k + 1, a, h, hl, ha, hs, hk => by
   have hj := drop_nil h
   rw [aV.l0, dO, if_neg (by omega), fu (by omega)]; rfl
 | p :: s, l, j, k + 1, a, h, hl, ha, hs, hk => by
   obtain ⟨hj, hr, hd⟩ := eZ (z := z29) h
   have hr' : aG l (j : Int) = p := hr
   rw [aV.l0, dO, if_pos (by omega), if_pos (by omega), jg, hr', r0, r1, r2, r3, r4, r5, hs p (List.mem_cons_self ..) k (by simp at hk; omega)]
   show (if (D p : Int) > (a : Int) then aV.l0 k (D p : Int) (wrap64 ((j : Int) + 1)) f0 f1 f2 f3 (dK l) f5 else aV.l0 k (a : Int) (wrap64 ((j : Int) + 1)) f0 f1 f2 f3 (dK l) f5) = _
   have ih := qm hD f0 f1 f2 f3 f5 s l (j + 1) k (max a (D p)) hd hl (Nat.max_le.2 ⟨ha, hD p⟩) (fun y hy => hs y (List.mem_cons_of_mem _ hy)) (by simp at hk; omega)
   rw [fu (by omega)]
   split
   · rw [show (D p : Int) = ((max a (D p) : Nat) : Int) by omega]; exact ih
   · rw [show (a : Int) = ((max a (D p) : Nat) : Int) by omega]; exact ih
theorem qo {K : Nat} {D : SV → Nat} (hD : ∀ y, D y ≤ 1000000) (f0 : Int) (f1 : Bool) (f2 : Int) (f3 : ByteArray) (f4) : ∀ (s l : List SP) (j k a : Nat), l.drop j = s → l.length ≤ 1000 → a ≤ 1000000 → (∀ y ∈ s.map (·.f1), ∀ k, K ≤ k → aV.f k y.f0 y.f1 y.f2 y.f3 (dK y.f4) (dN y.f5) = some (D y : Int)) → K + s.length + 1 ≤ k → aV.l1 k (a : Int) (j : Int) f0 f1 f2 f3 f4 (dN l) = some ((((s.map (·.f1)).foldl (fun a y => max a (D y)) a + 1 : Nat)) : Int)
 | s, l, j, 0, a, h, hl, ha, hs, hk => by omega
 | [], l, j, k + 1, a, h, hl, ha, hs, hk => by
   have hj := drop_nil h
   rw [aV.l1, fJ, if_neg (by omega), fu (by omega)]; rfl
 | p :: s, l, j, k + 1, a, h, hl, ha, hs, hk => by
   obtain ⟨hj, hr, hd⟩ := eZ (z := z48) h
   have hr' : aH l (j : Int) = p := hr
   rw [aV.l1, fJ, if_pos (by omega), if_pos (by omega), jh, hr']
   show ((aV.f k (toR p.f1).f0 (toR p.f1).f1 (toR p.f1).f2 (toR p.f1).f3 (toR p.f1).f4 (toR p.f1).f5).bind fun t => if t > (a : Int) then aV.l1 k t (wrap64 ((j : Int) + 1)) f0 f1 f2 f3 f4 (dN l) else aV.l1 k (a : Int) (wrap64 ((j : Int) + 1)) f0 f1 f2 f3 f4 (dN l)) = _
   rw [r0, r1, r2, r3, r4, r5, hs p.f1 (List.mem_cons_self ..) k (by simp at hk; omega)]
   show (if (D p.f1 : Int) > (a : Int) then aV.l1 k (D p.f1 : Int) (wrap64 ((j : Int) + 1)) f0 f1 f2 f3 f4 (dN l) else aV.l1 k (a : Int) (wrap64 ((j : Int) + 1)) f0 f1 f2 f3 f4 (dN l)) = _
   have ih := qo hD f0 f1 f2 f3 f4 s l (j + 1) k (max a (D p.f1)) hd hl (Nat.max_le.2 ⟨ha, hD p.f1⟩) (fun y hy => hs y (List.mem_cons_of_mem _ hy)) (by simp at hk; omega)
   rw [fu (by omega)]
   split
   · rw [show (D p.f1 : Int) = ((max a (D p.f1) : Nat) : Int) by omega]; exact ih
   · rw [show (a : Int) = ((max a (D p.f1) : Nat) : Int) by omega]; exact ih
theorem qp : ∀ (n : Nat) (x : SV), Ok n x → n ≤ 1000 → ∀ k, n * 1100 ≤ k → aV.f k x.f0 x.f1 x.f2 x.f3 (dK x.f4) (dN x.f5) = some (jP n x : Int) := by
  intro n
  induction n with
  | zero => exact fun x h _ _ _ => h.elim
  | succ n ih =>
    intro x h hn k hk
    obtain ⟨k, rfl⟩ : ∃ q, k = q + 1 := ⟨k - 1, by omega⟩
    have hD : ∀ y, jP n y ≤ 1000000 := fun y => Nat.le_trans (nU n y) (by omega)
    have hp := nT h
    rw [aV.f, jP]
    by_cases h4 : x.f0 = 4
    · have e : prt x = x.f4 := by unfold prt; rw [if_pos h4]
      rw [e] at hp
      rw [if_pos h4, if_pos (Or.inl h4), e]
      exact qm (K := n * 1100) hD x.f0 x.f1 x.f2 x.f3 _ x.f4 x.f4 0 k 0 rfl hp.2 (by omega) (fun y hy k hk => ih y (hp.1 y hy) (by omega) k hk) (by omega)
    · rw [if_neg h4]
      by_cases h5 : x.f0 = 5
      · have e : prt x = x.f5.map (·.f1) := by unfold prt; rw [if_neg h4, if_pos h5]
        rw [e] at hp
        rw [if_pos h5, if_pos (Or.inr h5), e]
        rw [List.length_map] at hp
        exact qo (K := n * 1100) hD x.f0 x.f1 x.f2 x.f3 _ x.f5 x.f5 0 k 0 rfl hp.2 (by omega) (fun y hy k hk => ih y (hp.1 y hy) (by omega) k hk) (by omega)
      · rw [if_neg h5, if_neg (fun h => h.elim h4 h5)]; rfl
theorem oN {s : ByteArray} (h : s.size ≤ 100000) {k : Nat} (hk : 1000020 ≤ k) : bP.f k s = some (tx s) := by
  rw [bP.f, qV s (by omega) k (by omega), tx]
  show (if Lib.validD s.data.toList = true then _ else _) = _
  split
  · split
    · rw [if_pos (by omega)]
    · rw [if_neg (by omega)]
  · rfl
def txL : List SP → Int
 | [] => 0
 | p :: ps => if tx p.f0 = 0 then txL ps else tx p.f0
def oO (seen : List (List UInt8)) : List SP → Bool
 | [] => false
 | p :: ps => if p.f0.data.toList ∈ seen then true else oO (p.f0.data.toList :: seen) ps
theorem sU : ∀ (l : List SP) (seen : List (List UInt8)), kyF seen 8 l = if txL l = 0 then 8 else txL l
 | [], _ => rfl
 | p :: ps, seen => by
   rw [kyF, txL]
   split
   · split
     · exact sU ps _
     · exact sU ps _
   · rfl
theorem sV : ∀ (l : List SP) (seen : List (List UInt8)), kyF seen 0 l = if txL l = 0 then (if oO seen l then 8 else 0) else txL l
 | [], _ => rfl
 | p :: ps, seen => by
   rw [kyF, txL, oO]
   split
   · split
     · rw [sU, if_pos rfl]
     · exact sV ps _
   · rfl
theorem oP : ∀ (l : List SP) (seen : List (List UInt8)), oO seen l = true ↔ ∃ i, ∃ h : i < l.length, l[i].f0.data.toList ∈ seen ∨ ∃ m, ∃ hm : m < i, (l[m]'(by omega)).f0.data.toList = l[i].f0.data.toList
 | [], seen => by simp [oO]
 | p :: ps, seen => by
   rw [oO]
   split
   · rename_i h
     exact ⟨fun _ => ⟨0, Nat.zero_lt_succ _, .inl h⟩, fun _ => rfl⟩
   · rename_i hn
     rw [oP ps (p.f0.data.toList :: seen)]
     constructor
     · rintro ⟨i, hi, h | ⟨m, hm, h⟩⟩
       · rcases List.mem_cons.1 h with h | h
         · exact ⟨i + 1, by rw [List.length_cons]; omega, .inr ⟨0, by omega, h.symm⟩⟩
         · exact ⟨i + 1, by rw [List.length_cons]; omega, .inl h⟩
       · exact ⟨i + 1, by rw [List.length_cons]; omega, .inr ⟨m + 1, by omega, h⟩⟩
     · rintro ⟨i, hi, h⟩
       cases i with
       | zero =>
         rcases h with h | ⟨m, hm, _⟩
         · exact absurd h hn
         · omega
       | succ i =>
         rw [List.length_cons] at hi
         rcases h with h | ⟨m, hm, h⟩
         · exact ⟨i, by omega, .inl (List.mem_cons_of_mem _ h)⟩
         · cases m with
           | zero => exact ⟨i, by omega, .inl (by rw [← show p.f0.data.toList = ps[i].f0.data.toList from h]; exact List.mem_cons_self ..)⟩
           | succ m => exact ⟨i, by omega, .inr ⟨m, by omega, h⟩⟩
theorem u6 (a b : ByteArray) : (a.toList = b.toList) ↔ (a.data.toList = b.data.toList) := by rw [ByteArray.toList_eq, ByteArray.toList_eq]
theorem sW (f0 : Int) (f1 : Bool) (f2 : Int) (f3 : ByteArray) (f4) : ∀ (s l : List SP) (j k : Nat), l.drop j = s → l.length ≤ 1000 → (∀ p ∈ s, p.f0.size ≤ 100000) → 1000020 + s.length + 1 ≤ k → aI.l1 k (j : Int) f0 f1 f2 f3 f4 (dN l) = if txL s = 0 then aI.l2 (k - s.length - 1) 0 f0 f1 f2 f3 f4 (dN l) else some (txL s)
 | s, l, j, 0, h, hl, hs, hk => by omega
 | [], l, j, k + 1, h, hl, hs, hk => by
   have hj := drop_nil h
   rw [aI.l1, fJ, if_neg (by omega)]
   rfl
 | p :: s, l, j, k + 1, h, hl, hs, hk => by
   obtain ⟨hj, hr, hd⟩ := eZ (z := z48) h
   have hr' : aH l (j : Int) = p := hr
   rw [aI.l1, fJ, if_pos (by omega), if_pos (by omega), jh, hr']
   show ((bP.f k p.f0).bind fun t => if t = 0 then aI.l1 k (wrap64 ((j : Int) + 1)) f0 f1 f2 f3 f4 (dN l) else some t) = _
   rw [oN (hs p (List.mem_cons_self ..)) (by omega), txL]
   show (if tx p.f0 = 0 then aI.l1 k (wrap64 ((j : Int) + 1)) f0 f1 f2 f3 f4 (dN l) else some (tx p.f0)) = _
   split
   · rw [fu (by omega), sW f0 f1 f2 f3 f4 s l (j + 1) k hd hl (fun q hq => hs q (List.mem_cons_of_mem _ hq)) (by simp at hk; omega), show k + 1 - (p :: s).length - 1 = k - s.length - 1 by simp only [List.length_cons]; omega]
   · rfl
def ky (l : List SP) (i : Nat) : List UInt8 := (aH l (i : Int)).f0.data.toList
theorem sZ (f0 : Int) (f1 : Bool) (f2 : Int) (f3 : ByteArray) (f4) (l : List SP) (hl : l.length ≤ 1000) (i : Nat) (hi : i < l.length) : ∀ (d j k : Nat), j + d = i → d + 1 ≤ k →
    ((∃ m, j ≤ m ∧ m < i ∧ ky l m = ky l i) → aI.l3 k (i : Int) (j : Int) f0 f1 f2 f3 f4 (dN l) = some 8) ∧ ((¬ ∃ m, j ≤ m ∧ m < i ∧ ky l m = ky l i) → aI.l3 k (i : Int) (j : Int) f0 f1 f2 f3 f4 (dN l) = aI.l2 (k - d - 1) ((i + 1 : Nat) : Int) f0 f1 f2 f3 f4 (dN l))
 | d, j, 0, hj, hk => by omega
 | 0, j, k + 1, hj, hk => by
   refine ⟨fun ⟨m, h1, h2, _⟩ => by omega, fun _ => ?_⟩
   rw [aI.l3, if_neg (by omega), fu (by omega)]
   rfl
 | d + 1, j, k + 1, hj, hk => by
   obtain ⟨ih1, ih2⟩ := sZ f0 f1 f2 f3 f4 l hl i hi d (j + 1) k (by omega) (by omega)
   have e : aI.l3 (k + 1) (i : Int) (j : Int) f0 f1 f2 f3 f4 (dN l) = if ky l i = ky l j then some 8 else aI.l3 k (i : Int) ((j + 1 : Nat) : Int) f0 f1 f2 f3 f4 (dN l) := by
     rw [aI.l3, fJ, if_pos (by omega), if_pos (by omega), if_pos (by omega), if_pos (by omega), if_pos (by omega), jh, jh, fu (by omega)]
     show (if (aH l (i : Int)).f0.toList = (aH l (j : Int)).f0.toList then _ else _) = _
     by_cases h : ky l i = ky l j
     · rw [if_pos h, if_pos ((u6 _ _).2 h)]
     · rw [if_neg h, if_neg (fun e => h ((u6 _ _).1 e))]
   rw [e]
   constructor
   · rintro ⟨m, h1, h2, h3⟩
     by_cases h : ky l i = ky l j
     · rw [if_pos h]
     · rw [if_neg h]
       refine ih1 ⟨m, ?_, h2, h3⟩
       rcases Nat.lt_or_ge j m with h4 | h4
       · exact h4
       · exact absurd (by rw [← h3, show m = j by omega]) h
   · intro hn
     rw [if_neg (fun h => hn ⟨j, Nat.le_refl _, by omega, h.symm⟩), ih2 (fun ⟨m, h1, h2, h3⟩ => hn ⟨m, by omega, h2, h3⟩), show k + 1 - (d + 1) - 1 = k - d - 1 by omega]
set_option maxRecDepth 100000 in
theorem vV (f0 : Int) (f1 : Bool) (f2 : Int) (f3 : ByteArray) (f4) (l : List SP) (hl : l.length ≤ 1000) : ∀ (d i k : Nat), i + d = l.length → d * 1010 + 1 ≤ k →
    ((∃ a, i ≤ a ∧ a < l.length ∧ ∃ m, m < a ∧ ky l m = ky l a) → aI.l2 k (i : Int) f0 f1 f2 f3 f4 (dN l) = some 8) ∧ ((¬ ∃ a, i ≤ a ∧ a < l.length ∧ ∃ m, m < a ∧ ky l m = ky l a) → ∃ k', k ≤ k' + d * 1010 + 1 ∧ aI.l2 k (i : Int) f0 f1 f2 f3 f4 (dN l) = aI.l4 k' 0 f0 f1 f2 f3 f4 (dN l)) := by
 intro d
 induction d with
 | zero =>
   intro i k hi hk
   obtain ⟨k, rfl⟩ : ∃ q, k = q + 1 := ⟨k - 1, by omega⟩
   refine ⟨fun ⟨a, h1, h2, _⟩ => by omega, fun _ => ⟨k, by omega, ?_⟩⟩
   rw [aI.l2, fJ, if_neg (by omega)]
 | succ d ih =>
   intro i k hi hk
   obtain ⟨k, rfl⟩ : ∃ q, k = q + 1 := ⟨k - 1, by omega⟩
   have e : aI.l2 (k + 1) (i : Int) f0 f1 f2 f3 f4 (dN l) = aI.l3 k (i : Int) ((0 : Nat) : Int) f0 f1 f2 f3 f4 (dN l) := by
     rw [aI.l2, fJ, if_pos (by omega)]; rfl
   obtain ⟨h1, h2⟩ := sZ f0 f1 f2 f3 f4 l hl i (by omega) i 0 k (by omega) (by omega)
   obtain ⟨ih1, ih2⟩ := ih (i + 1) (k - i - 1) (by omega) (by omega)
   rw [e]
   by_cases hd : ∃ m, 0 ≤ m ∧ m < i ∧ ky l m = ky l i
   · refine ⟨fun _ => h1 hd, fun hn => ?_⟩
     obtain ⟨m, _, hm, hk⟩ := hd
     exact absurd ⟨i, Nat.le_refl _, by omega, m, hm, hk⟩ hn
   · rw [h2 hd]
     constructor
     · rintro ⟨a, ha, hb, m, hm, hk⟩
       refine ih1 ⟨a, ?_, hb, m, hm, hk⟩
       rcases Nat.lt_or_ge i a with h | h
       · exact h
       · obtain rfl : a = i := by omega
         exact absurd ⟨m, Nat.zero_le _, hm, hk⟩ hd
     · intro hn
       obtain ⟨k', hk1, hk2⟩ := ih2 (fun ⟨a, ha, hb, hc⟩ => hn ⟨a, by omega, hb, hc⟩)
       exact ⟨k', by omega, hk2⟩
theorem tq {K : Nat} {W : SV → Int} (f0 : Int) (f1 : Bool) (f2 : Int) (f3 : ByteArray) (f4) : ∀ (s l : List SP) (j k : Nat), l.drop j = s → l.length ≤ 1000 → (∀ y ∈ s.map (·.f1), ∀ k, K ≤ k → aI.f k y.f0 y.f1 y.f2 y.f3 (dK y.f4) (dN y.f5) = some (W y)) → K + s.length + 1 ≤ k → aI.l4 k (j : Int) f0 f1 f2 f3 f4 (dN l) = some (wrL W (s.map (·.f1)))
 | s, l, j, 0, h, hl, hs, hk => by omega
 | [], l, j, k + 1, h, hl, hs, hk => by
   have hj := drop_nil h
   rw [aI.l4, fJ, if_neg (by omega)]; rfl
 | p :: s, l, j, k + 1, h, hl, hs, hk => by
   obtain ⟨hj, hr, hd⟩ := eZ (z := z48) h
   have hr' : aH l (j : Int) = p := hr
   rw [aI.l4, fJ, if_pos (by omega), if_pos (by omega), jh, hr']
   show ((aI.f k (toR p.f1).f0 (toR p.f1).f1 (toR p.f1).f2 (toR p.f1).f3 (toR p.f1).f4 (toR p.f1).f5).bind fun t => if t = 0 then aI.l4 k (wrap64 ((j : Int) + 1)) f0 f1 f2 f3 f4 (dN l) else some t) = _
   rw [r0, r1, r2, r3, r4, r5, hs p.f1 (List.mem_cons_self ..) k (by simp at hk; omega)]
   show (if W p.f1 = 0 then aI.l4 k (wrap64 ((j : Int) + 1)) f0 f1 f2 f3 f4 (dN l) else some (W p.f1)) = some (if W p.f1 = 0 then wrL W (s.map (·.f1)) else W p.f1)
   split
   · rw [fu (by omega), tq f0 f1 f2 f3 f4 s l (j + 1) k hd hl (fun y hy => hs y (List.mem_cons_of_mem _ hy)) (by simp at hk; omega)]
   · rfl
theorem tu {K : Nat} {W : SV → Int} (f0 : Int) (f1 : Bool) (f2 : Int) (f3 : ByteArray) (f5) (h5 : ¬ f0 = 5) : ∀ (s l : List SV) (j k : Nat), l.drop j = s → l.length ≤ 1000 → (∀ y ∈ s, ∀ k, K ≤ k → aI.f k y.f0 y.f1 y.f2 y.f3 (dK y.f4) (dN y.f5) = some (W y)) → K + s.length + 2 ≤ k → aI.l0 k (j : Int) f0 f1 f2 f3 (dK l) f5 = some (wrL W s)
 | s, l, j, 0, h, hl, hs, hk => by omega
 | [], l, j, k + 1, h, hl, hs, hk => by
   have hj := drop_nil h
   obtain ⟨k, rfl⟩ : ∃ q, k = q + 1 := ⟨k - 1, by omega⟩
   rw [aI.l0, dO, if_neg (by omega), aI.j2, if_neg h5]; rfl
 | p :: s, l, j, k + 1, h, hl, hs, hk => by
   obtain ⟨hj, hr, hd⟩ := eZ (z := z29) h
   have hr' : aG l (j : Int) = p := hr
   rw [aI.l0, dO, if_pos (by omega), if_pos (by omega), jg, hr', r0, r1, r2, r3, r4, r5, hs p (List.mem_cons_self ..) k (by simp at hk; omega)]
   show (if W p = 0 then aI.l0 k (wrap64 ((j : Int) + 1)) f0 f1 f2 f3 (dK l) f5 else some (W p)) = some (if W p = 0 then wrL W s else W p)
   split
   · rw [fu (by omega), tu f0 f1 f2 f3 f5 h5 s l (j + 1) k hd hl (fun y hy => hs y (List.mem_cons_of_mem _ hy)) (by simp at hk; omega)]
   · rfl
theorem qw {l : List SP} {i : Nat} (h : i < l.length) : ky l i = l[i].f0.data.toList := by
  unfold ky aH
  rw [Int.toNat_natCast, List.getD_eq_getElem?_getD, List.getElem?_eq_getElem h]; rfl
theorem tC (l : List SP) : oO [] l = true ↔ ∃ a, 0 ≤ a ∧ a < l.length ∧ ∃ m, m < a ∧ ky l m = ky l a := by
  rw [oP]
  constructor
  · rintro ⟨i, hi, h | ⟨m, hm, h⟩⟩
    · cases h
    · exact ⟨i, Nat.zero_le _, hi, m, hm, by rw [qw hi, qw (by omega)]; exact h⟩
  · rintro ⟨i, _, hi, m, hm, h⟩
    rw [qw hi, qw (by omega)] at h
    exact ⟨i, hi, .inr ⟨m, hm, h⟩⟩
set_option maxRecDepth 100000 in
theorem vW : ∀ (n : Nat) (x : SV), Ok n x → n ≤ 1000 → ∀ k, n * 1200000 + 1100000 ≤ k → aI.f k x.f0 x.f1 x.f2 x.f3 (dK x.f4) (dN x.f5) = some (wrN n x) := by
  intro n
  induction n with
  | zero => exact fun x h _ _ _ => h.elim
  | succ n ih =>
    intro x h hn k hk
    obtain ⟨k, rfl⟩ : ∃ q, k = q + 3 := ⟨k - 3, by omega⟩
    have hp := nT h
    rw [aI.f, wrN]
    by_cases hneg : x.f0 < 0
    · have he : wrE x = 15 := by unfold wrE; rw [if_neg (by omega), if_neg (by omega), if_neg (by omega)]
      rw [if_pos hneg, aI.j0, if_pos rfl, he]; rfl
    · rw [if_neg hneg]
      by_cases hbig : x.f0 > 5
      · have he : wrE x = 15 := by unfold wrE; rw [if_neg (by omega), if_neg (by omega), if_neg (by omega)]
        rw [decide_eq_true hbig, aI.j0, if_pos rfl, he]; rfl
      · rw [decide_eq_false hbig, aI.j0, if_neg (by decide)]
        by_cases h3 : x.f0 = 3
        · have he : wrE x = tx x.f3 := by unfold wrE; rw [if_neg (by omega), if_pos h3]
          have e : prt x = [] := by unfold prt; rw [if_neg (by omega), if_neg (by omega)]
          rw [if_pos h3, oN h.1 (by omega), he, e]
          show some (tx x.f3) = some (if tx x.f3 = 0 then 0 else tx x.f3)
          split
          · rename_i h0; rw [h0]
          · rfl
        · rw [if_neg h3]
          by_cases h4 : x.f0 = 4
          · have he : wrE x = 0 := by unfold wrE; rw [if_pos (Or.inr (Or.inr (Or.inr h4)))]
            have e : prt x = x.f4 := by unfold prt; rw [if_pos h4]
            rw [e] at hp
            rw [if_pos h4, he, e, if_pos rfl]
            exact tu (K := n * 1200000 + 1100000) x.f0 x.f1 x.f2 x.f3 _ (by omega) x.f4 x.f4 0 (k + 1) rfl hp.2 (fun y hy k hk => ih y (hp.1 y hy) (by omega) k hk) (by omega)
          · rw [if_neg h4, aI.j2]
            by_cases h5 : x.f0 = 5
            · have he : wrE x = kyF [] 0 x.f5 := by unfold wrE; rw [if_neg (by omega), if_neg h3, if_pos h5]
              have e : prt x = x.f5.map (·.f1) := by unfold prt; rw [if_neg h4, if_pos h5]
              rw [e, List.length_map] at hp
              rw [if_pos h5, he, e, sV]
              have e1 := sW x.f0 x.f1 x.f2 x.f3 (dK x.f4) x.f5 x.f5 0 k rfl hp.2 (fun p hp => (h.2.2.2.2 p hp).1) (by omega)
              refine e1.trans ?_
              by_cases ht : txL x.f5 = 0
              · rw [if_pos ht, if_pos ht]
                obtain ⟨g1, g2⟩ := vV x.f0 x.f1 x.f2 x.f3 (dK x.f4) x.f5 hp.2 x.f5.length 0 (k - x.f5.length - 1) (by omega) (by omega)
                by_cases hd : oO [] x.f5 = true
                · rw [if_pos hd, if_neg (by decide)]
                  exact g1 ((tC _).1 hd)
                · obtain ⟨k', hk1, hk2⟩ := g2 (fun z => hd ((tC _).2 z))
                  rw [if_neg hd, if_pos rfl]
                  refine Eq.trans hk2 ?_
                  exact tq (K := n * 1200000 + 1100000) x.f0 x.f1 x.f2 x.f3 _ x.f5 x.f5 0 k' rfl hp.2 (fun y hy k hk => ih y (hp.1 y hy) (by omega) k hk) (by omega)
              · rw [if_neg ht, if_neg ht, if_neg ht]
            · have he : wrE x = 0 := by unfold wrE; rw [if_pos (by omega)]
              have e : prt x = [] := by unfold prt; rw [if_neg h4, if_neg h5]
              rw [if_neg h5, he, e]; rfl
set_option maxRecDepth 100000 in
theorem uK {n : Nat} {x : SV} (h : Ok n x) (hn : n ≤ 1000) {k : Nat} (hk : n * 1200000 + 1100000 ≤ k) : cZ.f k x.f0 x.f1 x.f2 x.f3 (dK x.f4) (dN x.f5) = some (if jP n x > 32 then 9 else wrN n x) := by
  rw [cZ.f, qp n x h hn k (by omega), vW n x h hn k hk]
  show (if (jP n x : Int) > 32 then _ else _) = _
  split
  · rw [if_pos (by omega)]
  · rw [if_neg (by omega)]; rfl
end Go.Proofs.YtnkkbiabloodaaaDoor.GVa
