/- The value of a key, and a value as the document has it: the program's functions come to them. Plain lemmas. No conditions beside those stated. -/
import Derived.Test.YtnkkbiabloodaaaDoorVaSameR
import Derived.Test.YtnkkbiabloodaaaDoorGVax14
import Derived.Test.YtnkkbiabloodaaaDoorGVax15
namespace Go.Proofs.YtnkkbiabloodaaaDoor.GVa
open Go.RowKit Go.Proofs.YtnkkbiabloodaaaDoorW.PrintWords Go.Proofs.YtnkkbiabloodaaaDoorW.PrintLast Go.Proofs.YtnkkbiabloodaaaDoorW.PrintMore
set_option linter.unusedVariables false
set_option linter.unusedSimpArgs false
theorem vk {K : Nat} (m0 : Int) (m1 : Bool) (m2 : Int) (m3 : ByteArray) (m4) : ∀ (s l : List SP) (j k : Nat) (acc), l.drop j = s → l.length ≤ 1000 → acc.length = j → (∀ y ∈ s.map (·.f1), ∀ k, K ≤ k → aW.f k y.f0 y.f1 y.f2 y.f3 y.f4 y.f5 = some (y.f0, y.f1, y.f2, y.f3, cZ y.f4, dz y.f5)) → K + s.length + 1 ≤ k → aW.l1 k l (l.length : Int) (j : Int) m0 m1 m2 m3 m4 acc = some (m0, m1, m2, m3, m4, acc ++ dz s)
 | s, l, j, 0, acc, h, hl, ha, hs, hk => by omega
 | [], l, j, k + 1, acc, h, hl, ha, hs, hk => by
   have hj := drop_nil h
   rw [aW.l1, if_neg (by omega), dz, List.append_nil]
 | p :: s, l, j, k + 1, acc, h, hl, ha, hs, hk => by
   obtain ⟨hj, hr, hd⟩ := fD (z := z48) h
   have hr' : aC l (j : Int) = p := hr
   rw [aW.l1, if_pos (by omega), if_pos (by omega), if_pos (by omega), hr', hs p.f1 (List.mem_cons_self ..) k (by simp at hk; omega)]
   show (if acc.length < 1353245080339 then aW.l1 k l (l.length : Int) (wrap64 ((j : Int) + 1)) m0 m1 m2 m3 m4 (acc ++ [(⟨p.f0, ⟨p.f1.f0, p.f1.f1, p.f1.f2, p.f1.f3, cZ p.f1.f4, dz p.f1.f5⟩⟩ : S50)]) else none) = _
   rw [if_pos (by omega), gJ (by omega), vk m0 m1 m2 m3 m4 s l (j + 1) k _ hd hl (by rw [List.length_append, ha]; rfl) (fun y hy => hs y (List.mem_cons_of_mem _ hy)) (by simp at hk; omega), ← lI, List.append_assoc]
   cases p; rfl
theorem vo {K : Nat} (a0 : Int) (a1 : Bool) (a2 : Int) (a3 : ByteArray) (a4) (a5 : List SP) (m0 : Int) (m1 : Bool) (m2 : Int) (m3 : ByteArray) : ∀ (s l : List SV) (j k : Nat) (acc), l.drop j = s → l.length ≤ 1000 → acc.length = j → (∀ y ∈ s, ∀ k, K ≤ k → aW.f k y.f0 y.f1 y.f2 y.f3 y.f4 y.f5 = some (y.f0, y.f1, y.f2, y.f3, cZ y.f4, dz y.f5)) → K + s.length + 1 ≤ k → aW.l0 k l (l.length : Int) (j : Int) a0 a1 a2 a3 a4 a5 m0 m1 m2 m3 acc = aW.l1 (k - s.length - 1) a5 (a5.length : Int) 0 m0 m1 m2 m3 (acc ++ cZ s) []
 | s, l, j, 0, acc, h, hl, ha, hs, hk => by omega
 | [], l, j, k + 1, acc, h, hl, ha, hs, hk => by
   have hj := drop_nil h
   rw [aW.l0, if_neg (by omega), cZ, List.append_nil]
   rfl
 | p :: s, l, j, k + 1, acc, h, hl, ha, hs, hk => by
   obtain ⟨hj, hr, hd⟩ := fD (z := z29) h
   have hr' : aH l (j : Int) = p := hr
   rw [aW.l0, if_pos (by omega), if_pos (by omega), if_pos (by omega), hr', hs p (List.mem_cons_self ..) k (by simp at hk; omega)]
   show (if acc.length < 1599289640401 then aW.l0 k l (l.length : Int) (wrap64 ((j : Int) + 1)) a0 a1 a2 a3 a4 a5 m0 m1 m2 m3 (acc ++ [(⟨p.f0, p.f1, p.f2, p.f3, cZ p.f4, dz p.f5⟩ : S33)]) else none) = _
   rw [if_pos (by omega), gJ (by omega), vo a0 a1 a2 a3 a4 a5 m0 m1 m2 m3 s l (j + 1) k _ hd hl (by rw [List.length_append, ha]; rfl) (fun y hy => hs y (List.mem_cons_of_mem _ hy)) (by simp at hk; omega), ← lI, List.append_assoc, show k + 1 - (p :: s).length - 1 = k - s.length - 1 by simp only [List.length_cons]; omega, cZ]
   rfl
theorem wU : ∀ (n : Nat) (x : SV), Ok n x → ∀ k, n * 3000 ≤ k → aW.f k x.f0 x.f1 x.f2 x.f3 x.f4 x.f5 = some (x.f0, x.f1, x.f2, x.f3, cZ x.f4, dz x.f5) := by
  intro n
  induction n with
  | zero => exact fun x h _ _ => h.elim
  | succ n ih =>
    intro x h k hk
    obtain ⟨k, rfl⟩ : ∃ q, k = q + 1 := ⟨k - 1, by omega⟩
    obtain ⟨_, h2, h3, h4, h5⟩ := h
    rw [aW.f]
    have e := vo (K := n * 3000) x.f0 x.f1 x.f2 x.f3 x.f4 x.f5 x.f0 x.f1 x.f2 x.f3 x.f4 x.f4 0 k [] rfl h2 rfl (fun y hy k hk => ih y (h4 y hy) k hk) (by omega)
    refine Eq.trans e ?_
    rw [List.nil_append]
    exact vk (K := n * 3000) x.f0 x.f1 x.f2 x.f3 (cZ x.f4) x.f5 x.f5 0 (k - x.f4.length - 1) [] rfl h3 rfl (fun y hy k hk => by
      obtain ⟨p, hp, rfl⟩ := List.mem_map.1 hy
      exact ih p.f1 (h5 p hp).2 k hk) (by omega)
def gt (key : ByteArray) : List SP → SV × Bool
 | [] => (z29, false)
 | p :: ps => if p.f0.toList = key.toList then (p.f1, true) else gt key ps
theorem vv {n : Nat} {key : ByteArray} : ∀ (l : List SP), (∀ p ∈ l, Ok n p.f1) → 1 ≤ n → Ok n (gt key l).1
 | [], _, hn => oH.le hn
 | p :: ps, h, hn => by
   rw [gt]
   split
   · exact h p (List.mem_cons_self ..)
   · exact vv ps (fun q hq => h q (List.mem_cons_of_mem _ hq)) hn
theorem qN (key : ByteArray) : ∀ (s l : List SP) (j k : Nat), l.drop j = s → l.length ≤ 1000 → s.length + 1 ≤ k → bP.l0 k key l (l.length : Int) (j : Int) = some ((gt key s).1.f0, (gt key s).1.f1, (gt key s).1.f2, (gt key s).1.f3, (gt key s).1.f4, (gt key s).1.f5, (gt key s).2)
 | s, l, j, 0, h, hl, hk => by omega
 | [], l, j, k + 1, h, hl, hk => by
   have hj := drop_nil h
   rw [bP.l0, if_neg (by omega)]; rfl
 | p :: s, l, j, k + 1, h, hl, hk => by
   obtain ⟨hj, hr, hd⟩ := fD (z := z48) h
   have hr' : aC l (j : Int) = p := hr
   rw [bP.l0, if_pos (by omega), if_pos (by omega), if_pos (by omega), hr', gt]
   split
   · rfl
   · rw [gJ (by omega), qN key s l (j + 1) k hd hl (by simp at hk; omega)]
theorem qO (key : ByteArray) (a0 : Int) (a1 : Bool) (a2 : Int) (a3 : ByteArray) (a4) : ∀ (s l : List SP) (j k : Nat), l.drop j = s → l.length ≤ 1000 → s.length + 1 ≤ k → bT.l0 k key (j : Int) a0 a1 a2 a3 a4 (dz l) = some ((gt key s).1.f0, (gt key s).1.f1, (gt key s).1.f2, (gt key s).1.f3, cZ (gt key s).1.f4, dz (gt key s).1.f5, (gt key s).2)
 | s, l, j, 0, h, hl, hk => by omega
 | [], l, j, k + 1, h, hl, hk => by
   have hj := drop_nil h
   rw [bT.l0, iK, if_neg (by omega)]; rfl
 | p :: s, l, j, k + 1, h, hl, hk => by
   obtain ⟨hj, hr, hd⟩ := fD (z := z48) h
   have hr' : aC l (j : Int) = p := hr
   rw [bT.l0, iK, if_pos (by omega), if_pos (by omega), oI, hr', gt]
   show (if p.f0.toList = key.toList then some ((toR p.f1).f0, (toR p.f1).f1, (toR p.f1).f2, (toR p.f1).f3, (toR p.f1).f4, (toR p.f1).f5, true) else bT.l0 k key (wrap64 ((j : Int) + 1)) a0 a1 a2 a3 a4 (dz l)) = _
   split
   · rw [r0, r1, r2, r3, r4, r5]
   · rw [gJ (by omega), qO key a0 a1 a2 a3 a4 s l (j + 1) k hd hl (by simp at hk; omega)]
theorem vR {n : Nat} {x : SV} (h : Ok (n + 1) x) (hn : 1 ≤ n) (key : ByteArray) : ∃ X b, Ok n X ∧ ∀ k, 1001 ≤ k → bP.f k x.f0 x.f1 x.f2 x.f3 x.f4 x.f5 key = some (X.f0, X.f1, X.f2, X.f3, X.f4, X.f5, b) ∧ bT.f k x.f0 x.f1 x.f2 x.f3 (cZ x.f4) (dz x.f5) key = some (X.f0, X.f1, X.f2, X.f3, cZ X.f4, dz X.f5, b) := by
  obtain ⟨_, h2, h3, h4, h5⟩ := h
  by_cases hk : x.f0 = 5
  · refine ⟨(gt key x.f5).1, (gt key x.f5).2, vv _ (fun p hp => (h5 p hp).2) hn, fun k hk2 => ⟨?_, ?_⟩⟩
    · rw [bP.f, if_pos hk]
      exact qN key x.f5 x.f5 0 k rfl h3 (by omega)
    · rw [bT.f, if_pos hk]
      exact qO key x.f0 x.f1 x.f2 x.f3 _ x.f5 x.f5 0 k rfl h3 (by omega)
  · refine ⟨z29, false, oH.le hn, fun k hk2 => ⟨?_, ?_⟩⟩
    · rw [bP.f, if_neg hk]; rfl
    · rw [bT.f, if_neg hk]; rfl
end Go.Proofs.YtnkkbiabloodaaaDoor.GVa
