/- Values by structure (plain): depth, what is wrong, alike; the program's functions come to them. No conditions beside those stated. -/
import Derived.Test.YtnkkbiabloodaaaDoorVaBld0
import Derived.Test.YtnkkbiabloodaaaDoorGVaSame
import Derived.Test.YtnkkbiabloodaaaDoorGVax3
import Derived.Test.YtnkkbiabloodaaaDoorGVax6
import Derived.Test.YtnkkbiabloodaaaDoorGVax1
namespace Go.Proofs.YtnkkbiabloodaaaDoor.GVa
open Go.RowKit Go.Proofs.YtnkkbiabloodaaaDoorW.PrintWords Go.Proofs.YtnkkbiabloodaaaDoorW.PrintLast Go.Proofs.YtnkkbiabloodaaaDoorW.PrintMore
set_option linter.unusedVariables false
set_option linter.unusedSimpArgs false
theorem fD {α : Type} {l s : List α} {y z : α} {j : Nat} (h : l.drop j = y :: s) : j < l.length ∧ l.getD ((j : Int)).toNat z = y ∧ l.drop (j + 1) = s := by
  have hj : j < l.length := by
    rcases Nat.lt_or_ge j l.length with hj | hj
    · exact hj
    · rw [List.drop_of_length_le hj] at h; cases h
  rw [List.drop_eq_getElem_cons hj] at h
  injection h with h1 h2
  refine ⟨hj, ?_, h2⟩
  rw [Int.toNat_natCast, List.getD_eq_getElem?_getD, List.getElem?_eq_getElem hj, ← h1]; rfl
theorem drop_nil {α : Type} {l : List α} {j : Nat} (h : l.drop j = []) : l.length ≤ j := List.drop_eq_nil_iff.1 h
theorem gJ {j : Nat} (h : j < 1000000000) : wrap64 ((j : Int) + 1) = ((j + 1 : Nat) : Int) := iQ (by push_cast; rfl) (by omega)
def Ok : Nat → S29 → Prop
 | 0, _ => False
 | n + 1, x => x.f3.size ≤ 100000 ∧ x.f4.length ≤ 1000 ∧ x.f5.length ≤ 1000 ∧ (∀ y ∈ x.f4, Ok n y) ∧ (∀ p ∈ x.f5, p.f0.size ≤ 100000 ∧ Ok n p.f1)
theorem Ok.more : ∀ {n : Nat} {x : S29}, Ok n x → Ok (n + 1) x
 | 0, _, h => h.elim
 | n + 1, x, ⟨h1, h2, h3, h4, h5⟩ => ⟨h1, h2, h3, fun y hy => (h4 y hy).more, fun p hp => ⟨(h5 p hp).1, (h5 p hp).2.more⟩⟩
theorem Ok.le {n m : Nat} {x : S29} (h : Ok n x) (hm : n ≤ m) : Ok m x := by
  induction hm with
  | refl => exact h
  | step _ ih => exact ih.more
def prt (x : S29) : List S29 := if x.f0 = 4 then x.f4 else if x.f0 = 5 then x.f5.map (·.f1) else []
theorem sW {n : Nat} {x : S29} (h : Ok (n + 1) x) : (∀ y ∈ prt x, Ok n y) ∧ (prt x).length ≤ 1000 := by
  obtain ⟨_, h2, h3, h4, h5⟩ := h
  unfold prt
  split
  · exact ⟨h4, h2⟩
  · split
    · refine ⟨fun y hy => ?_, by rw [List.length_map]; exact h3⟩
      obtain ⟨p, hp, rfl⟩ := List.mem_map.1 hy
      exact (h5 p hp).2
    · exact ⟨fun y hy => (by cases hy), Nat.zero_le _⟩
theorem wR (x : S29) : (⟨x.f0, x.f1, x.f2, x.f3, x.f4, x.f5⟩ : S29) = x := by cases x; rfl
theorem pE : ∀ (s : List S48) (l : List S48) (j k : Nat) (acc : List S29), l.drop j = s → l.length ≤ 1000 → acc.length = j → s.length + 1 ≤ k → bf.l0 k acc l (l.length : Int) (j : Int) = some (acc ++ s.map (·.f1))
 | s, l, j, 0, acc, h, hl, ha, hk => by omega
 | [], l, j, k + 1, acc, h, hl, ha, hk => by
   have hj := drop_nil h
   rw [bf.l0, if_neg (by omega)]; simp
 | p :: s, l, j, k + 1, acc, h, hl, ha, hk => by
   obtain ⟨hj, hr, hd⟩ := fD (z := z48) h
   have hr' : aC l (j : Int) = p := hr
   rw [bf.l0, if_pos (by omega), if_pos (by omega), if_pos (by omega), if_pos (by omega), hr', gJ (by omega)]
   rw [pE s l (j + 1) k _ hd hl (by rw [List.length_append, ha]; rfl) (by simp at hk; omega)]
   rw [List.append_assoc, wR]; rfl
theorem pF {n k : Nat} {x : S29} (h : Ok n x) (hk : 1001 ≤ k) : bf.f k x.f0 x.f1 x.f2 x.f3 x.f4 x.f5 = some (prt x) := by
  cases n with
  | zero => exact h.elim
  | succ n =>
  obtain ⟨_, h2, h3, _, _⟩ := h
  unfold bf.f prt
  split
  · rfl
  · split
    · exact (pE x.f5 x.f5 0 k [] rfl h3 rfl (by omega)).trans (by rw [List.nil_append])
    · rfl
def ni : Nat → S29 → Nat
 | 0, _ => 0
 | n + 1, x => if x.f0 = 4 ∨ x.f0 = 5 then (prt x).foldl (fun a y => max a (ni n y)) 0 + 1 else 0
theorem pG {D : S29 → Nat} {b : Nat} : ∀ (s : List S29) (a : Nat), a ≤ b → (∀ y ∈ s, D y ≤ b) → s.foldl (fun a y => max a (D y)) a ≤ b
 | [], a, h, _ => h
 | y :: s, a, h, hs => pG s _ (Nat.max_le.2 ⟨h, hs y (List.mem_cons_self ..)⟩) (fun z hz => hs z (List.mem_cons_of_mem _ hz))
theorem qJ : ∀ (n : Nat) (x : S29), ni n x ≤ n
 | 0, _ => Nat.le_refl _
 | n + 1, x => by
   unfold ni
   split
   · exact Nat.succ_le_succ (pG _ _ (Nat.zero_le _) (fun y _ => qJ n y))
   · exact Nat.zero_le _
theorem vN (a b : Nat) : mx (a : Int) (b : Int) = ((max a b : Nat) : Int) := by unfold mx; split <;> omega
theorem qK {K : Nat} {D : S29 → Nat} (hD : ∀ y, D y ≤ 1000000) : ∀ (s l : List S29) (j k a : Nat), l.drop j = s → l.length ≤ 1000 → a ≤ 1000000 → (∀ y ∈ s, ∀ k, K ≤ k → aR.f k y.f0 y.f1 y.f2 y.f3 y.f4 y.f5 = some (D y : Int)) → K + s.length + 1 ≤ k → aR.l0 k (a : Int) l (l.length : Int) (j : Int) = some (((s.foldl (fun a y => max a (D y)) a + 1 : Nat)) : Int)
 | s, l, j, 0, a, h, hl, ha, hs, hk => by omega
 | [], l, j, k + 1, a, h, hl, ha, hs, hk => by
   have hj := drop_nil h
   rw [aR.l0, if_neg (by omega), gJ (by omega)]; rfl
 | p :: s, l, j, k + 1, a, h, hl, ha, hs, hk => by
   obtain ⟨hj, hr, hd⟩ := fD (z := z29) h
   have hr' : aH l (j : Int) = p := hr
   rw [aR.l0, if_pos (by omega), if_pos (by omega), if_pos (by omega), hr', hs p (List.mem_cons_self ..) k (by simp at hk; omega)]
   show aR.l0 k (mx (a : Int) (D p : Int)) l (l.length : Int) (wrap64 ((j : Int) + 1)) = _
   rw [gJ (by omega), vN, qK hD s l (j + 1) k _ hd hl (Nat.max_le.2 ⟨ha, hD p⟩) (fun y hy => hs y (List.mem_cons_of_mem _ hy)) (by simp at hk; omega)]
   rfl
theorem uK : ∀ (n : Nat) (x : S29), Ok n x → n ≤ 1000 → ∀ k, n * 1100 ≤ k → aR.f k x.f0 x.f1 x.f2 x.f3 x.f4 x.f5 = some (ni n x : Int) := by
 intro n
 induction n with
 | zero => exact fun x h _ _ _ => h.elim
 | succ n ih =>
   intro x h hn k hk
   obtain ⟨k, rfl⟩ : ∃ q, k = q + 2 := ⟨k - 2, by omega⟩
   have hp := sW h
   have hl := qK (K := n * 1100) (D := ni n) (fun y => Nat.le_trans (qJ n y) (by omega)) (prt x) (prt x) 0 k 0 rfl hp.2 (by omega) (fun y hy k hk => ih y (hp.1 y hy) (by omega) k hk) (by omega)
   have hq := pF (k := k) h (by omega)
   rw [aR.f, ni]
   by_cases h4 : x.f0 = 4
   · rw [if_pos h4, if_pos (.inl h4), aR.j0, if_neg (by decide), hq]
     exact hl
   · rw [if_neg h4]
     by_cases h5 : x.f0 = 5
     · rw [if_pos (.inr h5), aR.j0, h5, if_neg (by decide), ← h5, hq]
       exact hl
     · rw [if_neg (fun h => h.elim h4 h5), aR.j0, if_pos (bne_iff_ne.2 h5)]; rfl
def tx (s : ByteArray) : Int := if Lib.validD s.data.toList then (if s.size > 4096 then 2 else 0) else 10
theorem qL {s : ByteArray} (h : s.size ≤ 1000000000) : fT.f s = some (tx s) := by
  rw [fT.f, utf8_ValidString.f, if_pos (by omega), tx]
  show (if Lib.validD s.data.toList = true then _ else _) = _
  split
  · split
    · rw [if_pos (by omega)]
    · rw [if_neg (by omega)]
  · rfl
def kyF (seen : List (List UInt8)) (tw : Int) : List S48 → Int
 | [] => tw
 | p :: ps => if tx p.f0 = 0 then (if p.f0.data.toList ∈ seen then kyF seen 8 ps else kyF (p.f0.data.toList :: seen) tw ps) else tx p.f0
theorem nk : ∀ (l : List S48) (seen : List (List UInt8)) (tw : Int), (∀ p ∈ l, p.f0.size ≤ 100000) → ng seen tw l = some (kyF seen tw l)
 | [], _, _, _ => rfl
 | p :: ps, seen, tw, h => by
   have hp := h p (List.mem_cons_self ..)
   rw [ng, if_pos (by omega), qL (by omega), kyF]
   show (if tx p.f0 = 0 then _ else _) = _
   split
   · split
     · exact nk ps _ _ (fun q hq => h q (List.mem_cons_of_mem _ hq))
     · exact nk ps _ _ (fun q hq => h q (List.mem_cons_of_mem _ hq))
   · rfl
def wrE (x : S29) : Int := if x.f0 = 0 ∨ x.f0 = 1 ∨ x.f0 = 2 ∨ x.f0 = 4 then 0 else if x.f0 = 3 then tx x.f3 else if x.f0 = 5 then kyF [] 0 x.f5 else 15
def wrL (W : S29 → Int) : List S29 → Int
 | [] => 0
 | y :: l => if W y = 0 then wrL W l else W y
def wrN : Nat → S29 → Int
 | 0, _ => 0
 | n + 1, x => if wrE x = 0 then wrL (wrN n) (prt x) else wrE x
theorem sZ {K : Nat} {W : S29 → Int} : ∀ (s l : List S29) (j k : Nat), l.drop j = s → l.length ≤ 1000 → (∀ y ∈ s, ∀ k, K ≤ k → aN.f k y.f0 y.f1 y.f2 y.f3 y.f4 y.f5 = some (W y)) → K + s.length + 1 ≤ k → aN.l0 k l (l.length : Int) (j : Int) = some (wrL W s)
 | s, l, j, 0, h, hl, hs, hk => by omega
 | [], l, j, k + 1, h, hl, hs, hk => by
   have hj := drop_nil h
   rw [aN.l0, if_neg (by omega)]; rfl
 | p :: s, l, j, k + 1, h, hl, hs, hk => by
   obtain ⟨hj, hr, hd⟩ := fD (z := z29) h
   have hr' : aH l (j : Int) = p := hr
   rw [aN.l0, if_pos (by omega), if_pos (by omega), if_pos (by omega), hr', hs p (List.mem_cons_self ..) k (by simp at hk; omega), wrL]
   show (if W p = 0 then aN.l0 k l (l.length : Int) (wrap64 ((j : Int) + 1)) else some (W p)) = _
   split
   · rw [gJ (by omega), sZ s l (j + 1) k hd hl (fun y hy => hs y (List.mem_cons_of_mem _ hy)) (by simp at hk; omega)]
   · rfl
theorem vO : ∀ (n : Nat) (x : S29), Ok n x → n ≤ 1000 → ∀ k, n * 1100 ≤ k → aN.f k x.f0 x.f1 x.f2 x.f3 x.f4 x.f5 = some (wrN n x) := by
 intro n
 induction n with
 | zero => exact fun x h _ _ _ => h.elim
 | succ n ih =>
   intro x h hn k hk
   obtain ⟨k, rfl⟩ : ∃ q, k = q + 3 := ⟨k - 3, by omega⟩
   have hp := sW h
   have hl := sZ (K := n * 1100) (W := wrN n) (prt x) (prt x) 0 k rfl hp.2 (fun y hy k hk => ih y (hp.1 y hy) (by omega) k hk) (by omega)
   have hq := pF (k := k) h (by omega)
   have hj1 : ∀ e : Int, aN.j1 (k + 1) e x.f0 x.f1 x.f2 x.f3 x.f4 x.f5 = some (if e = 0 then wrL (wrN n) (prt x) else e) := by
     intro e
     rw [aN.j1]
     split
     · rw [hq]; exact hl
     · rfl
   have ht := qL (s := x.f3) (by have := h.1; omega)
   have hky : gH.f x.f5 = some (kyF [] 0 x.f5) := by
     rw [gH.f, if_pos (by have := h.2.2.1; omega)]
     exact nk _ _ _ (fun p hp => (h.2.2.2.2 p hp).1)
   rw [aN.f, wrN]
   by_cases h0 : x.f0 = 0
   · have he : wrE x = 0 := by unfold wrE; rw [if_pos (Or.inl h0)]
     rw [if_pos h0, aN.j0, if_pos (by rw [h0]; rfl)]
     exact (hj1 _).trans (by rw [he])
   · rw [if_neg h0]
     by_cases h1 : x.f0 = 1
     · have he : wrE x = 0 := by unfold wrE; rw [if_pos (Or.inr (Or.inl h1))]
       rw [if_pos h1, aN.j0, if_pos (by rw [h1]; rfl)]
       exact (hj1 _).trans (by rw [he])
     · rw [if_neg h1]
       by_cases h2 : x.f0 = 2
       · have he : wrE x = 0 := by unfold wrE; rw [if_pos (Or.inr (Or.inr (Or.inl h2)))]
         rw [if_pos h2, aN.j0, if_pos (by rw [h2]; rfl)]
         exact (hj1 _).trans (by rw [he])
       · rw [if_neg h2, aN.j0]
         by_cases h4 : x.f0 = 4
         · have he : wrE x = 0 := by unfold wrE; rw [if_pos (Or.inr (Or.inr (Or.inr h4)))]
           rw [if_pos (by rw [h4]; rfl)]
           exact (hj1 _).trans (by rw [he])
         · have xS : ¬ (x.f0 = 0 ∨ x.f0 = 1 ∨ x.f0 = 2 ∨ x.f0 = 4) := fun h => h.elim h0 (fun h => h.elim h1 (fun h => h.elim h2 h4))
           rw [if_neg (by rw [beq_iff_eq]; exact h4)]
           by_cases h3 : x.f0 = 3
           · have he : wrE x = tx x.f3 := by unfold wrE; rw [if_neg xS, if_pos h3]
             rw [if_pos h3, ht]
             exact (hj1 _).trans (by rw [he])
           · rw [if_neg h3]
             by_cases h5 : x.f0 = 5
             · have he : wrE x = kyF [] 0 x.f5 := by unfold wrE; rw [if_neg xS, if_neg h3, if_pos h5]
               rw [if_pos h5, hky]
               exact (hj1 _).trans (by rw [he])
             · have he : wrE x = 15 := by unfold wrE; rw [if_neg xS, if_neg h3, if_neg h5]
               rw [if_neg h5]
               exact (hj1 _).trans (by rw [he])
theorem xG {n : Nat} {x : S29} (h : Ok n x) (hn : n ≤ 1000) {k : Nat} (hk : n * 1100 ≤ k) : bZ.f k x.f0 x.f1 x.f2 x.f3 x.f4 x.f5 = some (if ni n x > 32 then 9 else wrN n x) := by
  rw [bZ.f, uK n x h hn k hk, vO n x h hn k hk]
  show (if (ni n x : Int) > 32 then _ else _) = _
  split
  · rw [if_pos (by omega)]
  · rw [if_neg (by omega)]; rfl
end Go.Proofs.YtnkkbiabloodaaaDoor.GVa
