/- A line's remark: the program's place and the document's are one. Plain lemmas. The rows of a line's content, by the document's loops. Plain lemmas. A text's lines, by the document's loop: the pieces. Plain lemmas. The rows of a line's content, by the program's loop. Plain lemmas. A text's rows, by the program and by the document: one plain function. Plain lemmas. No conditions beside those stated. -/
import Derived.Test.YticabhjmojcfoaaDoorGUtx4
import Derived.Test.YticabhjmojcfoaaDoorGUtx11
import Derived.Test.YticabhjmojcfoaaDoorGUtx12
import Derived.Test.YticabhjmojcfoaaDoorGUtx9
import Derived.Test.YticabhjmojcfoaaDoorSeq
import Derived.Test.YticabhjmojcfoaaDoorGUtx5
import Derived.Test.YticabhjmojcfoaaDoorUtM
import Derived.Test.YticabhjmojcfoaaDoorGUtCut
namespace Go.Proofs.YticabhjmojcfoaaDoor.Pure
open Go.RowKit Go.Proofs.YticabhjmojcfoaaDoor.GUt Go.Proofs.YticabhjmojcfoaaDoorW.PrintWords Go.Proofs.YticabhjmojcfoaaDoorW.PrintLast Go.Proofs.YticabhjmojcfoaaDoorW.PrintMore

theorem wi {i : Nat} (h : i ≤ 1000000000) : wrap64 ((i : Int) + 1) = ((i + 1 : Nat) : Int) := by rw [i64_id (by omega) (by omega)]; omega
theorem wd {i : Nat} (h : i ≤ 1000000000) : wrap64 (((i + 1 : Nat) : Int) - 1) = (i : Int) := by rw [i64_id (by omega) (by omega)]; omega
/-- The remark's place. -/
def remN (s : ByteArray) : Nat → Nat → Bool → Bool → Int × Bool
  | 0, _, q, _ => ((s.size : Int), !q)
  | m + 1, i, q, e => if e = true then remN s m (i + 1) q false else if q = true ∧ bt s (i : Int) = 92 then remN s m (i + 1) q true
    else if bt s (i : Int) = 34 then remN s m (i + 1) (!q) false else if bt s (i : Int) = 35 ∧ q = false ∧ (i = 0 ∨ bt s ((i - 1 : Nat) : Int) = 32) then ((i : Int), true) else remN s m (i + 1) q false
theorem rem_j1 (s : ByteArray) (hs : s.size ≤ 1000000000) (m i : Nat) (q : Bool) (h : i + (m + 1) = s.size) (ih : ∀ q e, Ev (fun k => ylines_remark.l0 k s q e (s.size : Int) ((i + 1 : Nat) : Int)) (remN s m (i + 1) q e)) (b : Bool) (hb : b = true ↔ (q = true ∧ bt s (i : Int) = 92)) :
    Ev (fun k => ylines_remark.j1 k s q false (i : Int) (s.size : Int) (i : Int) b) (remN s (m + 1) i q false) := by
  have h0 : (0 : Int) ≤ (i : Int) := by omega
  have h1 : (i : Int) < (s.size : Int) := by omega
  have w1 := wi (i := i) (by omega)
  rw [remN, if_neg Bool.false_ne_true]
  by_cases hbt : b = true
  · rw [if_pos (hb.1 hbt)]
    have := (hb.1 hbt).1
    subst this
    exact Ev.step (fun k => by rw [ylines_remark.j1, if_pos hbt, w1]) (ih true true)
  rw [if_neg (fun x => hbt (hb.2 x))]
  by_cases h34 : bt s (i : Int) = 34
  · rw [if_pos h34]
    exact Ev.step (fun k => by rw [ylines_remark.j1, if_neg hbt, if_pos h0, if_pos h1, if_pos h34, w1]) (ih (!q) false)
  rw [if_neg h34]
  by_cases h35 : bt s (i : Int) = 35
  · cases q with
    | true =>
      rw [if_neg (fun x => Bool.noConfusion x.2.1)]
      exact Ev.step (fun k => by rw [ylines_remark.j1, if_neg hbt, if_pos h0, if_pos h1, if_neg h34, if_pos h35, if_pos rfl, w1]) (ih true false)
    | false =>
      cases i with
      | zero =>
        rw [if_pos ⟨h35, rfl, .inl rfl⟩]
        exact Ev.step (fun k => by rw [ylines_remark.j1, if_neg hbt, if_pos h0, if_pos h1, if_neg h34, if_pos h35, if_neg Bool.false_ne_true, if_pos (show ((0 : Nat) : Int) = 0 from rfl)]) (Ev.now _)
      | succ j =>
        have w2 := wd (i := j) (by omega)
        have step : ∀ k, ylines_remark.j1 (k + 1) s false false ((j + 1 : Nat) : Int) (s.size : Int) ((j + 1 : Nat) : Int) b = if bt s (j : Int) = 32 then some (((j + 1 : Nat) : Int), true) else ylines_remark.l0 k s false false (s.size : Int) ((j + 1 + 1 : Nat) : Int) := fun k => by
          rw [ylines_remark.j1, if_neg hbt, if_pos h0, if_pos h1, if_neg h34, if_pos h35, if_neg Bool.false_ne_true, if_neg (show ¬ ((j + 1 : Nat) : Int) = 0 by omega), w2, w1, if_pos (show (0 : Int) ≤ (j : Int) by omega), if_pos (show (j : Int) < (s.size : Int) by omega)]
        by_cases h32 : bt s (j : Int) = 32
        · rw [if_pos ⟨h35, rfl, .inr h32⟩]
          exact Ev.step (fun k => by rw [step k, if_pos h32]) (Ev.now _)
        · rw [if_neg (fun x => by
            rcases x.2.2 with x | x
            · omega
            · exact h32 x)]
          exact Ev.step (fun k => by rw [step k, if_neg h32]) (ih false false)
  · rw [if_neg (fun x => h35 x.1)]
    exact Ev.step (fun k => by rw [ylines_remark.j1, if_neg hbt, if_pos h0, if_pos h1, if_neg h34, if_neg h35, w1]) (ih q false)
theorem rem_loop (s : ByteArray) (hs : s.size ≤ 1000000000) : ∀ (m i : Nat) (q e : Bool), i + m = s.size → Ev (fun k => ylines_remark.l0 k s q e (s.size : Int) (i : Int)) (remN s m i q e)
  | 0, i, q, e, h => by
    rw [remN]
    exact Ev.step (fun k => by rw [ylines_remark.l0, if_neg (by omega)]) (Ev.now _)
  | m + 1, i, q, true, h => by
    rw [remN, if_pos rfl]
    exact Ev.step (fun k => by rw [ylines_remark.l0, if_pos (by omega), if_pos rfl, wi (by omega)]) (rem_loop s hs m (i + 1) q false (by omega))
  | m + 1, i, true, false, h => Ev.step (fun k => by rw [ylines_remark.l0, if_pos (by omega), if_neg Bool.false_ne_true, if_pos rfl, if_pos (by omega), if_pos (by omega)]) (rem_j1 s hs m i true h (fun q e => rem_loop s hs m (i + 1) q e (by omega)) (bt s (i : Int) == 92) ⟨fun x => ⟨rfl, beq_iff_eq.1 x⟩, fun x => beq_iff_eq.2 x.2⟩)
  | m + 1, i, false, false, h => Ev.step (fun k => by rw [ylines_remark.l0, if_pos (by omega), if_neg Bool.false_ne_true, if_neg Bool.false_ne_true]) (rem_j1 s hs m i false h (fun q e => rem_loop s hs m (i + 1) q e (by omega)) false ⟨fun x => Bool.noConfusion x, fun x => Bool.noConfusion x.1⟩)
theorem rem_ev (s : ByteArray) (hs : s.size ≤ 1000000000) : Ev (fun k => ylines_remark.f k s) (remN s s.size 0 false false) := rem_loop s hs s.size 0 false false (by omega)
theorem rem_place (s : ByteArray) : ∀ (m i : Nat) (q e : Bool), i + m = s.size → 0 ≤ (remN s m i q e).1 ∧ (remN s m i q e).1 ≤ (s.size : Int)
  | 0, _, _, _, _ => ⟨by rw [remN]; simp, by rw [remN]; simp⟩
  | m + 1, i, q, e, h => by
    have ih := fun q e => rem_place s m (i + 1) q e (by omega)
    rw [remN]
    repeat' split
    all_goals first | exact ih _ _ | (constructor <;> simp only [] <;> omega)
theorem ext_all (s : ByteArray) : s.extract 0 s.size = s := ByteArray.extract_zero_size
/-- What is ahead of the remark. -/
def contN (s : ByteArray) (r : Int × Bool) : ByteArray × Int := if r.2 = true then (s.extract 0 r.1.toNat, 0) else (⟨#[]⟩, 11)
theorem cont_loop (s : ByteArray) (hs : s.size ≤ 1000000000) : ∀ (n m i : Nat), m ≤ n → i + m = s.size →
    Ev (fun k => bosunref10_content.l1 k s (i : Int)) (contN s (remN s m i false false)) ∧ Ev (fun k => bosunref10_content.l2 k s (i : Int)) (contN s (remN s m i true false)) := by
  have over : ∀ i : Nat, s.size ≤ i → Ev (fun k => bosunref10_content.l2 k s (i : Int)) (⟨#[]⟩, 11) := fun i h =>
    Ev.step (fun k => by rw [bosunref10_content.l2, if_neg (by omega)]) (Ev.step (f := fun _ => some (⟨#[]⟩, 11)) (fun k => by rw [bosunref10_content.j4, if_neg Bool.false_ne_true, if_pos (by omega)]) (Ev.now _))
  have fin : ∀ i : Nat, i = s.size → Ev (fun k => bosunref10_content.l1 k s (i : Int)) (contN s (remN s 0 i false false)) ∧ Ev (fun k => bosunref10_content.l2 k s (i : Int)) (contN s (remN s 0 i true false)) := by
    intro i h
    have e0 : contN s (remN s 0 i false false) = (s, 0) := by
      rw [remN, contN, if_pos (show (!false) = true from rfl), Int.toNat_natCast, ext_all]
    have e1 : contN s (remN s 0 i true false) = (⟨#[]⟩, 11) := by
      rw [remN, contN, if_neg (show ¬ (!true) = true from Bool.false_ne_true)]
    rw [e0, e1]
    exact ⟨Ev.step (fun k => by rw [bosunref10_content.l1, if_neg (by omega)]) (Ev.now _), over i (by omega)⟩
  intro n
  induction n with
  | zero =>
    intro m i hm h
    obtain rfl : m = 0 := by omega
    exact fin i (by omega)
  | succ n ih =>
    intro m i hm h
    cases m with
    | zero => exact fin i (by omega)
    | succ m =>
      have h0 : (0 : Int) ≤ (i : Int) := by omega
      have h1 : (i : Int) < (s.size : Int) := by omega
      have w1 := wi (i := i) (by omega)
      have i1 := ih m (i + 1) (by omega) (by omega)
      constructor
      · have j2 : ∀ b : Bool, (b = true ↔ (bt s (i : Int) = 35 ∧ (i = 0 ∨ bt s ((i - 1 : Nat) : Int) = 32))) → Ev (fun k => bosunref10_content.j2 k s (i : Int) b) (contN s (remN s (m + 1) i false false)) := by
          intro b hb
          rw [remN, if_neg Bool.false_ne_true, if_neg (fun x => Bool.noConfusion x.1)]
          by_cases hbt : b = true
          · have hq := hb.1 hbt
            rw [if_neg (by omega), if_pos ⟨hq.1, rfl, hq.2⟩]
            exact Ev.step (f := fun _ => some (contN s ((i : Int), true))) (fun k => by rw [bosunref10_content.j2, if_pos hbt, if_pos h0, if_pos (by omega)]; rfl) (Ev.now _)
          · by_cases h34 : bt s (i : Int) = 34
            · rw [if_pos h34]
              exact Ev.step (fun k => by rw [bosunref10_content.j2, if_neg hbt, if_pos h0, if_pos h1, if_pos h34, w1]) i1.2
            · rw [if_neg h34, if_neg (fun x => hbt (hb.2 ⟨x.1, x.2.2⟩))]
              exact Ev.step (fun k => by rw [bosunref10_content.j2, if_neg hbt, if_pos h0, if_pos h1, if_neg h34, w1]) i1.1
        by_cases h35 : bt s (i : Int) = 35
        · cases i with
          | zero => exact Ev.step (fun k => by rw [bosunref10_content.l1, if_pos h1, if_pos h0, if_pos h35, if_pos (show ((0 : Nat) : Int) = 0 from rfl)]) (j2 true ⟨fun _ => ⟨h35, .inl rfl⟩, fun _ => rfl⟩)
          | succ j =>
            have w2 := wd (i := j) (by omega)
            exact Ev.step (fun k => by rw [bosunref10_content.l1, if_pos h1, if_pos h0, if_pos h35, if_neg (show ¬ ((j + 1 : Nat) : Int) = 0 by omega), w2, if_pos (show (0 : Int) ≤ (j : Int) by omega), if_pos (show (j : Int) < (s.size : Int) by omega)]) (j2 (bt s (j : Int) == 32) ⟨fun x => ⟨h35, .inr (beq_iff_eq.1 x)⟩, fun x => beq_iff_eq.2 (by
              rcases x.2 with x | x
              · omega
              · exact x)⟩)
        · exact Ev.step (fun k => by rw [bosunref10_content.l1, if_pos h1, if_pos h0, if_neg h35]) (j2 false ⟨fun x => Bool.noConfusion x, fun x => absurd x.1 h35⟩)
      · rw [remN, if_neg Bool.false_ne_true]
        by_cases h34 : bt s (i : Int) = 34
        · rw [if_neg (by omega), if_pos h34]
          refine Ev.step (f := fun k => bosunref10_content.j4 k s (i : Int) false) (fun k => by rw [bosunref10_content.l2, if_pos h1, if_pos h0, h34]; rfl) ?_
          exact Ev.step (fun k => by rw [bosunref10_content.j4, if_neg Bool.false_ne_true, if_neg (by omega), w1]) i1.1
        · have hne : (bt s (i : Int) != 34) = true := bne_iff_ne.2 h34
          refine Ev.step (f := fun k => bosunref10_content.j4 k s (i : Int) true) (fun k => by rw [bosunref10_content.l2, if_pos h1, if_pos h0, hne]) ?_
          by_cases h92 : bt s (i : Int) = 92
          · rw [if_pos ⟨rfl, h92⟩]
            have w2 := wi (i := i + 1) (by omega)
            refine Ev.step (f := fun k => bosunref10_content.l2 k s ((i + 1 + 1 : Nat) : Int)) (fun k => by rw [bosunref10_content.j4, if_pos rfl, if_pos h0, if_pos h1, if_pos h92, w1, w2]) ?_
            cases m with
            | zero =>
              have e1 : contN s (remN s 0 (i + 1) true true) = (⟨#[]⟩, 11) := by
                rw [remN, contN, if_neg (show ¬ (!true) = true from Bool.false_ne_true)]
              rw [e1]
              exact over _ (by omega)
            | succ m =>
              rw [remN, if_pos rfl]
              exact (ih m (i + 1 + 1) (by omega) (by omega)).2
          · rw [if_neg (fun x => h92 x.2), if_neg h34, if_neg (fun x => Bool.noConfusion x.2.1)]
            exact Ev.step (fun k => by rw [bosunref10_content.j4, if_pos rfl, if_pos h0, if_pos h1, if_neg h92, w1]) i1.2
end Go.Proofs.YticabhjmojcfoaaDoor.Pure
namespace Go.Proofs.YticabhjmojcfoaaDoor.Pure
open Go.RowKit Go.Proofs.YticabhjmojcfoaaDoor.GUt Go.Proofs.YticabhjmojcfoaaDoorW.PrintWords Go.Proofs.YticabhjmojcfoaaDoorW.PrintLast Go.Proofs.YticabhjmojcfoaaDoorW.PrintMore

/-- Where the blanks at the end begin. -/
def endN (c : ByteArray) : Nat → Nat
  | 0 => 0
  | m + 1 => if bt c (m : Int) = 32 then endN c m else m + 1
theorem endN_le (c : ByteArray) : ∀ m, endN c m ≤ m
  | 0 => Nat.le_refl _
  | m + 1 => by
    have := endN_le c m
    rw [endN]
    split <;> omega
/-- The rows of a content from a place on. -/
def rowsN (c : ByteArray) (e : Nat) : Nat → Nat → List (Nat × Bool × ByteArray)
  | 0, _ => []
  | m + 1, i => if bt c (i : Int) = 32 then rowsN c e m (i + 1) else if bt c (i : Int) = 45 ∧ (i + 1 = e ∨ bt c ((i + 1 : Nat) : Int) = 32) then (i, true, ⟨#[]⟩) :: rowsN c e m (i + 1) else [(i, false, c.extract i e)]
theorem rowsN_len (c : ByteArray) (e : Nat) : ∀ m i, (rowsN c e m i).length ≤ m
  | 0, _ => Nat.le_refl _
  | m + 1, i => by
    have := rowsN_len c e m (i + 1)
    rw [rowsN]
    repeat' split
    all_goals (try simp only [List.length_cons, List.length_nil]) <;> omega
def row31 (n : Nat) (x : Nat × Bool × ByteArray) : S31 := ⟨(n : Int), (x.1 : Int), x.2.1, x.2.2⟩
abbrev LR := List S31
theorem ref_l2 (c : ByteArray) (e : Nat) (hc : c.size ≤ 100000000) (he : e ≤ c.size) (x6 : List ByteArray) (n : Nat) (hn : n ≤ 100000000) (r : LR × Int × Int) : ∀ (m i : Nat) (x5 : LR), i + m = e → x5.length + m ≤ 1000000000 →
    Ev (fun k => bosunref10_Cut.l0 k (x5 ++ (rowsN c e m i).map (row31 n)) x6 ((n + 1 : Nat) : Int)) r → Ev (fun k => bosunref10_Cut.l2 k x5 x6 (n : Int) c (e : Int) (i : Int)) r
  | 0, i, x5, h, hl, hr => by
    rw [rowsN, List.map_nil, List.append_nil] at hr
    exact Ev.step (fun k => by rw [bosunref10_Cut.l2, if_neg (by omega), wi (by omega)]) hr
  | m + 1, i, x5, h, hl, hr => by
    have h0 : (0 : Int) ≤ (i : Int) := by omega
    have h1 : (i : Int) < (e : Int) := by omega
    have h2 : (i : Int) < (c.size : Int) := by omega
    have w1 := wi (i := i) (by omega)
    rw [rowsN] at hr
    by_cases h32 : bt c (i : Int) = 32
    · rw [if_pos h32] at hr
      exact Ev.step (fun k => by rw [bosunref10_Cut.l2, if_pos h1, if_pos h0, if_pos h2, if_pos h32, w1]) (ref_l2 c e hc he x6 n hn r m (i + 1) x5 (by omega) (by omega) hr)
    rw [if_neg h32] at hr
    have dash : ∀ y : S31, y = row31 n (i, true, ⟨#[]⟩) → bt c (i : Int) = 45 ∧ (i + 1 = e ∨ bt c ((i + 1 : Nat) : Int) = 32) → Ev (fun k => bosunref10_Cut.l2 k (x5 ++ [y]) x6 (n : Int) c (e : Int) ((i + 1 : Nat) : Int)) r := by
      rintro y rfl hd
      rw [if_pos hd, List.map_cons, ← List.singleton_append, ← List.append_assoc] at hr
      exact ref_l2 c e hc he x6 n hn r m (i + 1) _ (by omega) (by simp; omega) hr
    have text : ∀ y : S31, y = row31 n (i, false, c.extract i e) → ¬ (bt c (i : Int) = 45 ∧ (i + 1 = e ∨ bt c ((i + 1 : Nat) : Int) = 32)) → Ev (fun k => bosunref10_Cut.l2 k (x5 ++ [y]) x6 (n : Int) c (e : Int) (e : Int)) r := by
      rintro y rfl hd
      rw [if_neg hd, List.map_cons, List.map_nil] at hr
      exact Ev.step (fun k => by rw [bosunref10_Cut.l2, if_neg (by omega), wi (by omega)]) hr
    have hx : x5.length < 3518437208883 := by omega
    have g1 : (i : Int) ≤ (e : Int) := by omega
    have g2 : (e : Int) ≤ (c.size : Int) := by omega
    by_cases h45 : bt c (i : Int) = 45
    · by_cases hz : i + 1 = e
      · exact Ev.step (fun k => by rw [bosunref10_Cut.l2, if_pos h1, if_pos h0, if_pos h2, if_neg h32, if_pos h45, w1, if_pos (by omega), if_pos hx]; rfl) (dash _ rfl ⟨h45, .inl hz⟩)
      · by_cases hb : bt c ((i + 1 : Nat) : Int) = 32
        · exact Ev.step (fun k => by rw [bosunref10_Cut.l2, if_pos h1, if_pos h0, if_pos h2, if_neg h32, if_pos h45, w1, if_neg (by omega), if_pos (by omega), if_pos (by omega), if_pos hb, if_pos hx]; rfl) (dash _ rfl ⟨h45, .inr hb⟩)
        · exact Ev.step (fun k => by rw [bosunref10_Cut.l2, if_pos h1, if_pos h0, if_pos h2, if_neg h32, if_pos h45, w1, if_neg (by omega), if_pos (by omega), if_pos (by omega), if_neg hb, if_pos g1, if_pos g2, if_pos hx]; rfl) (text _ rfl (fun q => by
            rcases q.2 with q | q
            · exact hz q
            · exact hb q))
    · exact Ev.step (fun k => by rw [bosunref10_Cut.l2, if_pos h1, if_pos h0, if_pos h2, if_neg h32, if_neg h45, if_pos g1, if_pos g2, if_pos hx]; rfl) (text _ rfl (fun q => h45 q.1))
theorem ref_l1 (c : ByteArray) (hc : c.size ≤ 100000000) (x6 : List ByteArray) (n : Nat) (hn : n ≤ 100000000) (r : LR × Int × Int) (x5 : LR) : ∀ m : Nat, m ≤ c.size →
    Ev (fun k => bosunref10_Cut.j2 k x5 x6 (n : Int) c ((endN c m : Nat) : Int)) r → Ev (fun k => bosunref10_Cut.l1 k x5 x6 (n : Int) c (m : Int)) r
  | 0, _, hr => Ev.step (fun k => by rw [bosunref10_Cut.l1, if_neg (by omega)]; rfl) hr
  | m + 1, hm, hr => by
    have w2 := wd (i := m) (by omega)
    rw [endN] at hr
    by_cases h : bt c (m : Int) = 32
    · rw [if_pos h] at hr
      exact Ev.step (fun k => by rw [bosunref10_Cut.l1, if_pos (by omega), w2, if_pos (by omega), if_pos (by omega), if_pos h]) (ref_l1 c hc x6 n hn r x5 m (by omega) hr)
    · rw [if_neg h] at hr
      exact Ev.step (fun k => by rw [bosunref10_Cut.l1, if_pos (by omega), w2, if_pos (by omega), if_pos (by omega), if_neg h]) hr
/-- The rows of a content. -/
def rowsT (c : ByteArray) : List (Nat × Bool × ByteArray) := rowsN c (endN c c.size) (endN c c.size) 0
theorem ref_rows (c : ByteArray) (hc : c.size ≤ 100000000) (x6 : List ByteArray) (n : Nat) (hn : n ≤ 100000000) (r : LR × Int × Int) (x5 : LR) (hl : x5.length + c.size ≤ 1000000000)
    (hr : Ev (fun k => bosunref10_Cut.l0 k (x5 ++ (rowsT c).map (row31 n)) x6 ((n + 1 : Nat) : Int)) r) : Ev (fun k => bosunref10_Cut.l1 k x5 x6 (n : Int) c (c.size : Int)) r := by
  have he := endN_le c c.size
  exact ref_l1 c hc x6 n hn r x5 c.size (Nat.le_refl _) (Ev.step (fun k => by rw [bosunref10_Cut.j2]; rfl) (ref_l2 c (endN c c.size) hc he x6 n hn r _ 0 x5 (by omega) (by omega) hr))
end Go.Proofs.YticabhjmojcfoaaDoor.Pure
namespace Go.Proofs.YticabhjmojcfoaaDoor.Pure
open Go.RowKit Go.Proofs.YticabhjmojcfoaaDoor.GUt Go.Proofs.YticabhjmojcfoaaDoor.Split Go.Proofs.YticabhjmojcfoaaDoorW.PrintWords Go.Proofs.YticabhjmojcfoaaDoorW.PrintLast Go.Proofs.YticabhjmojcfoaaDoorW.PrintMore

theorem drop_at (s : ByteArray) (j : Nat) (h : j < s.size) : ∃ b : UInt8, s.data.toList.drop j = b :: s.data.toList.drop (j + 1) ∧ (b.toNat : Int) = bt s (j : Int) := by
  have hl : j < s.data.toList.length := by rw [Array.length_toList]; exact h
  refine ⟨s.data.toList[j], List.drop_eq_getElem_cons hl, ?_⟩
  unfold bt
  rw [dif_pos (show ((j : Nat) : Int).toNat < s.size by omega)]
  simp only [Int.toNat_natCast, Array.getElem_toList]
  rfl
theorem ext_take (s : ByteArray) (a i : Nat) : s.extract a i = ⟨((s.data.toList.take i).drop a).toArray⟩ := by
  apply ByteArray.ext
  apply Array.ext'
  rw [ByteArray.data_extract, Array.toList_extract, List.drop_take]
theorem u8_is (b : UInt8) (n : Nat) (hn : n < 256) : b = UInt8.ofNat n ↔ (b.toNat : Int) = (n : Int) := by
  constructor
  · rintro rfl
    simp
    omega
  · intro h
    apply UInt8.toNat_inj.1
    simp
    omega
theorem lines_loop (s : ByteArray) (hs : s.size ≤ 100000000) : ∀ (m i a : Nat) (acc : List ByteArray), i + m = s.size → a ≤ i → acc.length + m ≤ 1000000000 → ∀ (p : List UInt8) (ps : List (List UInt8)), pieces 10 (s.data.toList.drop i) = p :: ps →
    Ev (fun k => bosunref10_Lines.l0 k s acc (a : Int) (i : Int)) (acc ++ ((⟨((s.data.toList.take i).drop a ++ p).toArray⟩ : ByteArray) :: ps.map fun l => ⟨l.toArray⟩))
  | 0, i, a, acc, h, ha, hl, p, ps, hp => by
    have hn : s.data.toList.drop i = [] := List.drop_eq_nil_of_le (by rw [Array.length_toList]; show s.size ≤ i; omega)
    rw [hn, pieces] at hp
    cases hp
    have w1 := wi (i := i) (by omega)
    have e : acc ++ ((⟨((s.data.toList.take i).drop a ++ []).toArray⟩ : ByteArray) :: (([] : List (List UInt8)).map fun l => (⟨l.toArray⟩ : ByteArray))) = acc ++ [s.extract a i] := by
      rw [List.append_nil, List.map_nil, ext_take]
    rw [e]
    refine Ev.step (f := fun k => bosunref10_Lines.l0 k s (acc ++ [s.extract a i]) ((i + 1 : Nat) : Int) ((i + 1 : Nat) : Int)) (fun k => by
      rw [bosunref10_Lines.l0, if_pos (by omega), if_pos (by omega), if_pos (by omega), if_pos (by omega), if_pos (by omega), w1]; rfl) ?_
    exact Ev.step (fun k => by rw [bosunref10_Lines.l0, if_neg (by omega)]) (Ev.now _)
  | m + 1, i, a, acc, h, ha, hl, p, ps, hp => by
    have w1 := wi (i := i) (by omega)
    obtain ⟨b, hb, hbt⟩ := drop_at s i (by omega)
    have tk : s.data.toList.take (i + 1) = s.data.toList.take i ++ [b] := by
      have hl : i < s.data.toList.length := by rw [Array.length_toList]; show i < s.size; omega
      rw [List.take_succ_eq_append_getElem hl]
      rw [List.drop_eq_getElem_cons hl] at hb
      injection hb with hb _
      rw [hb]
    have tl : (s.data.toList.take i).length = i := by rw [List.length_take, Array.length_toList]; show min i s.size = i; omega
    rw [hb, pieces] at hp
    by_cases h10 : b = 10
    · rw [if_pos h10] at hp
      cases hp
      obtain ⟨p', ps', hp'⟩ : ∃ p' ps', pieces 10 (s.data.toList.drop (i + 1)) = p' :: ps' := by
        cases hq : pieces 10 (s.data.toList.drop (i + 1)) with
        | nil => exact absurd hq (pieces_ne _ _)
        | cons p' ps' => exact ⟨p', ps', rfl⟩
      have ih := lines_loop s hs m (i + 1) (i + 1) (acc ++ [s.extract a i]) (by omega) (by omega) (by simp; omega) p' ps' hp'
      have hz : (s.data.toList.take (i + 1)).drop (i + 1) = [] := List.drop_eq_nil_of_le (by rw [List.length_take]; omega)
      have e : acc ++ ((⟨((s.data.toList.take i).drop a ++ []).toArray⟩ : ByteArray) :: ((pieces 10 (s.data.toList.drop (i + 1))).map fun l => (⟨l.toArray⟩ : ByteArray))) = acc ++ [s.extract a i] ++ ((⟨((s.data.toList.take (i + 1)).drop (i + 1) ++ p').toArray⟩ : ByteArray) :: (ps'.map fun l => (⟨l.toArray⟩ : ByteArray))) := by
        rw [List.append_nil, ← ext_take, hp', List.map_cons, hz, List.nil_append, List.append_assoc, List.singleton_append]
      rw [e]
      have : bt s (i : Int) = 10 := by rw [← hbt, h10]; rfl
      exact Ev.step (fun k => by rw [bosunref10_Lines.l0, if_pos (by omega), if_neg (by omega), if_pos (by omega), if_pos (by omega), if_pos this, if_pos (by omega), if_pos (by omega), if_pos (by omega), w1]; rfl) ih
    · rw [if_neg h10] at hp
      have hn : ¬ bt s (i : Int) = 10 := fun q => h10 ((u8_is b 10 (by decide)).2 (by rw [hbt, q]; rfl))
      obtain ⟨p', ps', hp'⟩ : ∃ p' ps', pieces 10 (s.data.toList.drop (i + 1)) = p' :: ps' := by
        cases hq : pieces 10 (s.data.toList.drop (i + 1)) with
        | nil => exact absurd hq (pieces_ne _ _)
        | cons p' ps' => exact ⟨p', ps', rfl⟩
      rw [hp'] at hp
      cases hp
      have ih := lines_loop s hs m (i + 1) a acc (by omega) (by omega) (by omega) p' ps hp'
      have e : (s.data.toList.take (i + 1)).drop a ++ p' = (s.data.toList.take i).drop a ++ b :: p' := by
        rw [tk, List.drop_append_of_le_length (by omega), List.append_assoc, List.singleton_append]
      rw [e] at ih
      exact Ev.step (fun k => by rw [bosunref10_Lines.l0, if_pos (by omega), if_neg (by omega), if_pos (by omega), if_pos (by omega), if_neg hn, w1]) ih
theorem lines_ev (s : ByteArray) (hs : s.size ≤ 100000000) : Ev (fun k => bosunref10_Lines.f k s) (texts 10 s) := by
  obtain ⟨p, ps, hp⟩ : ∃ p ps, pieces 10 s.data.toList = p :: ps := by
    cases hq : pieces 10 s.data.toList with
    | nil => exact absurd hq (pieces_ne _ _)
    | cons p' ps' => exact ⟨p', ps', rfl⟩
  have h := lines_loop s hs s.size 0 0 [] (by omega) (by omega) (by simp; omega) p ps (by rw [List.drop_zero]; exact hp)
  rw [List.take_zero, List.drop_zero, List.nil_append, List.nil_append] at h
  unfold texts
  rw [hp, List.map_cons]
  exact h
/-- The pieces have no more bytes than the text. -/
def total : List ByteArray → Nat
  | [] => 0
  | p :: ps => p.size + total ps
theorem pieces_total (c : UInt8) : ∀ l : List UInt8, total ((pieces c l).map fun l => ⟨l.toArray⟩) ≤ l.length ∧ (pieces c l).length ≤ l.length + 1
  | [] => by simp [pieces, total, ByteArray.size]
  | x :: l => by
    have ih := pieces_total c l
    unfold pieces
    split
    · rw [List.map_cons, total, List.length_cons, List.length_cons]
      simp only [ByteArray.size, List.size_toArray, List.length_nil]
      omega
    · cases hq : pieces c l with
      | nil => exact absurd hq (pieces_ne _ _)
      | cons p ps =>
        rw [hq, List.map_cons, total, List.length_cons] at ih
        simp only [List.map_cons, total, List.length_cons]
        simp only [ByteArray.size, List.size_toArray, List.length_cons] at ih ⊢
        omega
theorem texts_total (s : ByteArray) : total (texts 10 s) ≤ s.size ∧ (texts 10 s).length ≤ s.size + 1 := by
  have := pieces_total 10 s.data.toList
  rw [Array.length_toList] at this
  unfold texts
  rw [List.length_map]
  exact this
end Go.Proofs.YticabhjmojcfoaaDoor.Pure
namespace Go.Proofs.YticabhjmojcfoaaDoor.Pure
open Go.RowKit Go.Proofs.YticabhjmojcfoaaDoor.GUt Go.Proofs.YticabhjmojcfoaaDoor.Split Go.Proofs.YticabhjmojcfoaaDoorW.PrintWords Go.Proofs.YticabhjmojcfoaaDoorW.PrintLast Go.Proofs.YticabhjmojcfoaaDoorW.PrintMore

theorem at_some {s : ByteArray} {j : Nat} {b : UInt8} (h : s.data.toList[j]? = some b) : j < s.size ∧ (b.toNat : Int) = bt s (j : Int) := by
  obtain ⟨h1, h2⟩ := List.getElem?_eq_some_iff.1 h
  have hj : j < s.size := by rw [Array.length_toList] at h1; exact h1
  obtain ⟨b', e1, e2⟩ := drop_at s j hj
  rw [List.drop_eq_getElem_cons h1] at e1
  injection e1 with e1 _
  exact ⟨hj, by rw [← h2, e1]; exact e2⟩
theorem ext_list (s : ByteArray) (j : Nat) : (s.extract j s.size).data.toList = s.data.toList.drop j := by
  rw [ByteArray.data_extract, Array.toList_extract]
  show (s.data.toList.drop j).take (s.data.size - j) = _
  rw [List.take_of_length_le (by rw [List.length_drop, Array.length_toList]; exact Nat.le_refl _)]
/-- The next place without a blank. -/
def skipN (t : ByteArray) : Nat → Nat → Nat
  | 0, i => i
  | m + 1, i => if bt t (i : Int) = 32 then skipN t m (i + 1) else i
theorem skip_ge (t : ByteArray) : ∀ m i, i ≤ skipN t m i ∧ skipN t m i ≤ i + m
  | 0, i => ⟨Nat.le_refl _, Nat.le_refl _⟩
  | m + 1, i => by
    have := skip_ge t m (i + 1)
    rw [skipN]
    split <;> omega
theorem skip_in (t : ByteArray) : ∀ m i j, i ≤ j → j < skipN t m i → bt t (j : Int) = 32
  | 0, i, j, h1, h2 => by rw [skipN] at h2; omega
  | m + 1, i, j, h1, h2 => by
    rw [skipN] at h2
    by_cases h : bt t (i : Int) = 32
    · rw [if_pos h] at h2
      rcases Nat.eq_or_lt_of_le h1 with rfl | h3
      · exact h
      · exact skip_in t m (i + 1) j (by omega) h2
    · rw [if_neg h] at h2
      omega
theorem skip_out (t : ByteArray) : ∀ m i, skipN t m i < i + m → bt t ((skipN t m i : Nat) : Int) ≠ 32
  | 0, i, h => by rw [skipN] at h; omega
  | m + 1, i, h => by
    rw [skipN] at h ⊢
    by_cases h3 : bt t (i : Int) = 32
    · rw [if_pos h3] at h ⊢
      exact skip_out t m (i + 1) (by omega)
    · rw [if_neg h3]
      exact h3
theorem rows_skip (t : ByteArray) (e : Nat) : ∀ m i, rowsN t e m i = rowsN t e (i + m - skipN t m i) (skipN t m i)
  | 0, i => by rw [skipN, Nat.add_zero, Nat.sub_self]
  | m + 1, i => by
    have hg := skip_ge t m (i + 1)
    by_cases h : bt t (i : Int) = 32
    · rw [rowsN, skipN, if_pos h, if_pos h, rows_skip t e m (i + 1), show i + (m + 1) = i + 1 + m by omega]
    · rw [skipN, if_neg h, show i + (m + 1) - i = m + 1 by omega]
theorem trim_left (t : ByteArray) (m i : Nat) (h : i + m = t.size) : strings_TrimLeft.f (t.extract i t.size) ⟨#[32]⟩ = some (t.extract (skipN t m i) t.size) := by
  have hg := skip_ge t m i
  have hl : t.data.toList.length = t.size := Array.length_toList
  rw [strings_TrimLeft.f, if_pos rfl, ext_list, Lib.trimLeftB_drop (t.data.toList.drop i) 32 (skipN t m i - i) (by rw [List.length_drop]; omega)]
  · rw [List.drop_drop, show i + (skipN t m i - i) = skipN t m i by omega, Lib.extract_from]
  · intro j b hj hb
    rw [List.getElem?_drop] at hb
    obtain ⟨h1, h2⟩ := at_some hb
    have := skip_in t m i (i + j) (by omega) (by omega)
    exact (u8_is b 32 (by decide)).2 (by rw [h2, this]; rfl)
  · intro b hb
    rw [List.getElem?_drop, show i + (skipN t m i - i) = skipN t m i by omega] at hb
    obtain ⟨h1, h2⟩ := at_some hb
    intro q
    exact skip_out t m i (by omega) (by rw [← h2]; exact (u8_is b 32 (by decide)).1 q)
theorem trim_right (c : ByteArray) (hc : c.size ≤ 1000000000) : strings_TrimRight.f c ⟨#[32]⟩ = some (c.extract 0 (endN c c.size)) := by
  have hl : c.data.toList.length = c.size := Array.length_toList
  have he := endN_le c c.size
  have h1 : ∀ m j, endN c m ≤ j → j < m → bt c (j : Int) = 32 := by
    intro m
    induction m with
    | zero => intro j _ h; omega
    | succ m ih =>
      intro j h h'
      rw [endN] at h
      by_cases q : bt c (m : Int) = 32
      · rw [if_pos q] at h
        by_cases hj : j = m
        · rw [hj]; exact q
        · exact ih j h (by omega)
      · rw [if_neg q] at h
        omega
  have h2 : ∀ m, 0 < endN c m → bt c ((endN c m - 1 : Nat) : Int) ≠ 32 := by
    intro m
    induction m with
    | zero => intro h; rw [endN] at h; omega
    | succ m ih =>
      intro h
      rw [endN] at h ⊢
      by_cases q : bt c (m : Int) = 32
      · rw [if_pos q] at h ⊢
        exact ih h
      · rw [if_neg q]
        exact q
  rw [strings_TrimRight.f, if_pos ⟨rfl, by omega⟩, Lib.trimRightB_take c.data.toList 32 (endN c c.size) (by omega)]
  · rw [Lib.extract_upto]
  · intro j b hj hb
    obtain ⟨g1, g2⟩ := at_some hb
    exact (u8_is b 32 (by decide)).2 (by rw [g2, h1 c.size j hj g1]; rfl)
  · intro b hp hb q
    obtain ⟨g1, g2⟩ := at_some hb
    exact h2 c.size hp (by rw [← g2]; exact (u8_is b 32 (by decide)).1 q)
theorem has_prefix (t : ByteArray) (j : Nat) (hj : j < t.size) (ht : t.size ≤ 1000000000) : strings_HasPrefix.f (t.extract j t.size) ⟨#[45, 32]⟩ = some (decide (bt t (j : Int) = 45 ∧ j + 1 < t.size ∧ bt t ((j + 1 : Nat) : Int) = 32)) := by
  have hz : (t.extract j t.size).size = t.size - j := by rw [ByteArray.size_extract]; omega
  have h2 : (⟨#[45, 32]⟩ : ByteArray).size = 2 := rfl
  rw [strings_HasPrefix.f, stringslite_HasPrefix.f, hz, h2]
  by_cases h : j + 1 < t.size
  · obtain ⟨b, hb, hbt⟩ := drop_at t j hj
    obtain ⟨c, hc, hct⟩ := drop_at t (j + 1) h
    have e : ((t.extract j t.size).extract 0 2).toList = [b, c] := by
      rw [ByteArray.toList_eq, ByteArray.data_extract, Array.toList_extract]
      show ((t.extract j t.size).data.toList.drop 0).take 2 = _
      rw [ext_list, hb, hc]
      rfl
    have e2 : (⟨#[45, 32]⟩ : ByteArray).toList = [45, 32] := by rw [ByteArray.toList_eq]
    rw [if_pos (by omega), if_pos (by omega), if_pos (by omega), Option.bind_some, show (((2 : Nat) : Int)).toNat = 2 from rfl, e, e2]
    congr 1
    rw [Bool.eq_iff_iff, beq_iff_eq, decide_eq_true_iff, ← hbt, ← hct]
    constructor
    · intro q
      injection q with q1 q2
      injection q2 with q2 _
      exact ⟨(u8_is b 45 (by decide)).1 q1, h, (u8_is c 32 (by decide)).1 q2⟩
    · rintro ⟨q1, _, q2⟩
      rw [(u8_is b 45 (by decide)).2 q1, (u8_is c 32 (by decide)).2 q2]
      rfl
  · rw [if_neg (by omega), Option.bind_some, decide_eq_false (fun q => h q.2.1)]
def row32 (n : Nat) (x : Nat × Bool × ByteArray) : S32 := ⟨(n : Int), (x.1 : Int), x.2.1, x.2.2⟩
abbrev LP := List S32
theorem w_add {i j z : Nat} (hi : i ≤ j) (hj : j ≤ z) (hz : z ≤ 1000000000) : wrap64 ((i : Int) + wrap64 (((z - i : Nat) : Int) - ((z - j : Nat) : Int))) = (j : Int) := by
  have e : ((z - i : Nat) : Int) - ((z - j : Nat) : Int) = ((j - i : Nat) : Int) := by omega
  rw [e, i64_id (x := ((j - i : Nat) : Int)) (by omega) (by omega)]
  have e2 : (i : Int) + ((j - i : Nat) : Int) = (j : Int) := by omega
  rw [e2, i64_id (by omega) (by omega)]
theorem ext_next (t : ByteArray) (j : Nat) (hj : j ≤ t.size) : (t.extract j t.size).extract 1 (t.size - j) = t.extract (j + 1) t.size := by
  have e : j + (t.size - j) = t.size := Nat.add_sub_cancel' hj
  rw [ByteArray.extract_extract, e, Nat.min_self]
theorem rows_step (t : ByteArray) (ht : t.size ≤ 100000000) (m i n : Nat) (h : i + m = t.size) (x5 : LP) (hl : x5.length + m ≤ 1000000000) (j : Nat) (hj : skipN t m i = j) (k : Nat) :
    ylines_rows.l0 (k + 1) (n : Int) (t.extract i t.size) x5 (i : Int) = if j = t.size then some x5 else if bt t (j : Int) = 45 ∧ (j + 1 = t.size ∨ bt t ((j + 1 : Nat) : Int) = 32) then ylines_rows.l0 k (n : Int) (t.extract (j + 1) t.size) (x5 ++ [row32 n (j, true, ⟨#[]⟩)]) ((j + 1 : Nat) : Int) else some (x5 ++ [row32 n (j, false, t.extract j t.size)]) := by
  have hg := skip_ge t m i
  rw [hj] at hg
  rw [ylines_rows.l0, trim_left t m i h, hj, Option.bind_some, ByteArray.toList_eq, ext_list]
  have si : (t.extract i t.size).size = t.size - i := by rw [ByteArray.size_extract]; omega
  have sj : (t.extract j t.size).size = t.size - j := by rw [ByteArray.size_extract]; omega
  rw [si, sj, w_add hg.1 (by omega) (by omega)]
  by_cases hjs : j = t.size
  · rw [if_pos hjs, if_pos (List.drop_eq_nil_of_le (by rw [Array.length_toList]; show t.size ≤ j; omega))]
  rw [if_neg hjs]
  have hjt : j < t.size := by omega
  have hx : x5.length < 3518437208883 := by omega
  have h1j : 1 ≤ ((t.size - j : Nat) : Int) := by omega
  have hp := has_prefix t j hjt (Nat.le_trans ht (by decide))
  have w1 := wi (i := j) (by omega)
  obtain ⟨b, hb, hbt⟩ := drop_at t j hjt
  have ee := ext_next t j (Nat.le_trans hg.2 (Nat.le_of_eq h))
  rw [hb, if_neg (List.cons_ne_nil _ _), hp, ee, w1, Option.bind_some]
  clear w1 hp ee
  by_cases hone : b :: t.data.toList.drop (j + 1) = [45]
  · injection hone with q1 q2
    have : t.size ≤ j + 1 := by
      have := congrArg List.length q2
      rw [List.length_drop, Array.length_toList] at this
      have : t.data.size - (j + 1) = 0 := this
      have : t.size - (j + 1) = 0 := this
      omega
    rw [if_pos (by rw [q1, q2]), if_pos hx, if_pos h1j, if_pos ⟨by rw [← hbt]; exact (u8_is b 45 (by decide)).1 q1, .inl (by omega)⟩]
    rfl
  · rw [if_neg hone]
    have hz : ¬ (bt t (j : Int) = 45 ∧ j + 1 = t.size) := fun q => hone (by
      rw [(u8_is b 45 (by decide)).2 (hbt.trans q.1), List.drop_eq_nil_of_le (by rw [Array.length_toList]; show t.size ≤ j + 1; omega)]
      rfl)
    by_cases hd : bt t (j : Int) = 45 ∧ (j + 1 = t.size ∨ bt t ((j + 1 : Nat) : Int) = 32)
    · have h32 : bt t ((j + 1 : Nat) : Int) = 32 := by
        rcases hd.2 with q | q
        · exact absurd ⟨hd.1, q⟩ hz
        · exact q
      have hlt : j + 1 < t.size := Decidable.by_contra fun q => hz ⟨hd.1, by omega⟩
      rw [if_pos hd, if_pos (decide_eq_true ⟨hd.1, hlt, h32⟩), if_pos hx, if_pos h1j]
      rfl
    · rw [if_neg hd, if_neg (by rw [decide_eq_true_iff]; exact fun q => hd ⟨q.1, .inr q.2.2⟩), if_pos hx]
      rfl
theorem rows_loop (t : ByteArray) (ht : t.size ≤ 100000000) (n : Nat) : ∀ (g m i : Nat) (x5 : LP), m ≤ g → i + m = t.size → x5.length + m ≤ 1000000000 →
    Ev (fun k => ylines_rows.l0 k (n : Int) (t.extract i t.size) x5 (i : Int)) (x5 ++ (rowsN t t.size m i).map (row32 n))
  | 0, m, i, x5, hm, h, hl => by
    obtain rfl : m = 0 := by omega
    have hs := rows_step t ht 0 i n h x5 hl i rfl
    rw [rowsN, List.map_nil, List.append_nil]
    exact Ev.step (fun k => by rw [hs k, if_pos (by omega)]) (Ev.now _)
  | g + 1, m, i, x5, hm, h, hl => by
    obtain ⟨j, hj⟩ : ∃ j, skipN t m i = j := ⟨_, rfl⟩
    have hs := rows_step t ht m i n h x5 hl j hj
    have hg := skip_ge t m i
    have ho := skip_out t m i
    rw [hj] at hg ho
    rw [rows_skip, hj]
    by_cases hjs : j = t.size
    · rw [show i + m - j = 0 by omega, rowsN, List.map_nil, List.append_nil]
      exact Ev.step (fun k => by rw [hs k, if_pos hjs]) (Ev.now _)
    · obtain ⟨m', hm'⟩ : ∃ m', i + m - j = m' + 1 := ⟨i + m - j - 1, by omega⟩
      rw [hm', rowsN, if_neg (ho (by omega))]
      by_cases hd : bt t (j : Int) = 45 ∧ (j + 1 = t.size ∨ bt t ((j + 1 : Nat) : Int) = 32)
      · rw [if_pos hd, List.map_cons, ← List.singleton_append, ← List.append_assoc]
        exact Ev.step (fun k => by rw [hs k, if_neg hjs, if_pos hd]) (rows_loop t ht n g m' (j + 1) _ (by omega) (by omega) (by simp; omega))
      · rw [if_neg hd, List.map_cons, List.map_nil]
        exact Ev.step (fun k => by rw [hs k, if_neg hjs, if_neg hd]) (Ev.now _)
theorem bt_ext (c : ByteArray) (e j : Nat) (h : j < e) (he : e ≤ c.size) : bt (c.extract 0 e) (j : Int) = bt c (j : Int) := by
  unfold bt
  rw [dif_pos (by rw [ByteArray.size_extract]; omega), dif_pos (by omega)]
  have e5 : ∀ (x : Nat) (hx : x < (c.extract 0 e).size) (y : Nat) (hy : y < c.size), y = 0 + x → (c.extract 0 e)[x]'hx = c[y]'hy := by
    intro x hx y hy hxy
    subst hxy
    exact ByteArray.getElem_extract hx
  exact congrArg (fun c : UInt8 => (c.toNat : Int)) (e5 _ _ _ _ (by omega))
theorem rowsN_ext (c : ByteArray) (e : Nat) (he : e ≤ c.size) : ∀ m i, i + m = e → rowsN (c.extract 0 e) e m i = rowsN c e m i
  | 0, i, h => rfl
  | m + 1, i, h => by
    rw [rowsN, rowsN, bt_ext c e i (by omega) he, rowsN_ext c e he m (i + 1) (by omega)]
    have e1 : (c.extract 0 e).extract i e = c.extract i e := by
      rw [ByteArray.extract_extract]
      congr 1 <;> omega
    rw [e1]
    by_cases h1 : i + 1 = e
    · have e2 : (bt c (i : Int) = 45 ∧ (i + 1 = e ∨ bt (c.extract 0 e) ((i + 1 : Nat) : Int) = 32)) = (bt c (i : Int) = 45 ∧ (i + 1 = e ∨ bt c ((i + 1 : Nat) : Int) = 32)) := propext ⟨fun q => ⟨q.1, .inl h1⟩, fun q => ⟨q.1, .inl h1⟩⟩
      simp only [e2]
    · rw [bt_ext c e (i + 1) (by omega) he]
theorem rows_ev (c : ByteArray) (hc : c.size ≤ 100000000) (n : Nat) : Ev (fun k => (strings_TrimRight.f c ⟨#[32]⟩).bind fun t => ylines_rows.f k (n : Int) t) ((rowsT c).map (row32 n)) := by
  have he := endN_le c c.size
  have hz : (c.extract 0 (endN c c.size)).size = endN c c.size := by rw [ByteArray.size_extract]; omega
  have h := rows_loop (c.extract 0 (endN c c.size)) (by omega) n (endN c c.size) (endN c c.size) 0 [] (Nat.le_refl _) (by omega) (by simp; omega)
  rw [hz, rowsN_ext c _ he _ 0 (by omega), List.nil_append] at h
  refine Ev.congr (fun k => by rw [trim_right c (by omega), Option.bind_some, ylines_rows.f]) ?_
  have e0 : (c.extract 0 (endN c c.size)).extract 0 (endN c c.size) = c.extract 0 (endN c c.size) := by
    rw [ByteArray.extract_extract]
    congr 1
    omega
  rw [e0] at h
  exact h
end Go.Proofs.YticabhjmojcfoaaDoor.Pure
namespace Go.Proofs.YticabhjmojcfoaaDoor.Pure
open Go.RowKit Go.Proofs.YticabhjmojcfoaaDoor.GUt Go.Proofs.YticabhjmojcfoaaDoor.Split Go.Proofs.YticabhjmojcfoaaDoorW.PrintWords Go.Proofs.YticabhjmojcfoaaDoorW.PrintLast Go.Proofs.YticabhjmojcfoaaDoorW.PrintMore

/-- Is there a byte below 32? -/
def lowN (s : ByteArray) : Nat → Nat → Bool
  | 0, _ => false
  | m + 1, i => if bt s (i : Int) < 32 then true else lowN s m (i + 1)
def wrongN (s : ByteArray) : Int := if lowN s s.size 0 = true then 10 else if chain s s.size 0 = true then 0 else 10
theorem valid_ev (s : ByteArray) (hs : s.size ≤ 1000000000) : utf_Valid.f s = some (chain s s.size 0) := by
  rw [utf_Valid.f, valid_is s hs]
  rfl
theorem wrong_loop (s : ByteArray) (hs : s.size ≤ 1000000000) : ∀ (m i : Nat), i + m = s.size →
    Ev (fun k => ylines_wrong.l0 k s (s.size : Int) (i : Int)) (if lowN s m i = true then 10 else if chain s s.size 0 = true then 0 else 10)
  | 0, i, h => by
    rw [lowN, if_neg Bool.false_ne_true]
    refine Ev.step (f := fun _ => if chain s s.size 0 = true then some 0 else some 10) (fun k => by rw [ylines_wrong.l0, if_neg (by omega), valid_ev s hs, Option.bind_some]) ?_
    by_cases hc : chain s s.size 0 = true
    · rw [if_pos hc, if_pos hc]
      exact Ev.now _
    · rw [if_neg hc, if_neg hc]
      exact Ev.now _
  | m + 1, i, h => by
    by_cases hb : bt s (i : Int) < 32
    · rw [lowN, if_pos hb, if_pos rfl]
      exact Ev.step (fun k => by rw [ylines_wrong.l0, if_pos (by omega), if_pos (by omega), if_pos (by omega), if_pos hb]) (Ev.now _)
    · rw [lowN, if_neg hb]
      exact Ev.step (fun k => by rw [ylines_wrong.l0, if_pos (by omega), if_pos (by omega), if_pos (by omega), if_neg hb, wi (by omega)]) (wrong_loop s hs m (i + 1) (by omega))
theorem wrong_ev (s : ByteArray) (hs : s.size ≤ 1000000000) : Ev (fun k => ylines_wrong.f k s) (wrongN s) := wrong_loop s hs s.size 0 (by omega)
/-- A line's content, or what is wrong. -/
def contT (s : ByteArray) : ByteArray × Int := if wrongN s = 0 then contN s (remN s s.size 0 false false) else (⟨#[]⟩, 10)
theorem cont_ev (s : ByteArray) (hs : s.size ≤ 100000000) : ∀ (m i : Nat), i + m = s.size →
    Ev (fun k => bosunref10_content.l0 k s (i : Int)) (if lowN s m i = true then (⟨#[]⟩, 10) else if chain s s.size 0 = true then contN s (remN s s.size 0 false false) else (⟨#[]⟩, 10))
  | 0, i, h => by
    rw [lowN, if_neg Bool.false_ne_true]
    have hu : Ev (fun k => bosunref05_Utf8.f k s) (chain s s.size 0) := ⟨_, fun k hk => utf_is s (by omega) k hk⟩
    refine Ev.step (fun k => by rw [bosunref10_content.l0, if_neg (by omega)]) (Ev.bind hu ?_)
    by_cases hc : chain s s.size 0 = true
    · rw [if_pos hc]
      refine Ev.congr (fun k => if_pos hc) ?_
      exact (cont_loop s (by omega) s.size s.size 0 (Nat.le_refl _) (by omega)).1
    · rw [if_neg hc]
      exact Ev.congr (fun k => if_neg hc) (Ev.now _)
  | m + 1, i, h => by
    by_cases hb : bt s (i : Int) < 32
    · rw [lowN, if_pos hb, if_pos rfl]
      exact Ev.step (fun k => by rw [bosunref10_content.l0, if_pos (by omega), if_pos (by omega), if_pos hb]) (Ev.now _)
    · rw [lowN, if_neg hb]
      exact Ev.step (fun k => by rw [bosunref10_content.l0, if_pos (by omega), if_pos (by omega), if_neg hb, wi (by omega)]) (cont_ev s hs m (i + 1) (by omega))
theorem content_ev (s : ByteArray) (hs : s.size ≤ 100000000) : Ev (fun k => bosunref10_content.f k s) (contT s) := by
  have h := cont_ev s hs s.size 0 (by omega)
  have e : contT s = if lowN s s.size 0 = true then (⟨#[]⟩, 10) else if chain s s.size 0 = true then contN s (remN s s.size 0 false false) else (⟨#[]⟩, 10) := by
    unfold contT wrongN
    by_cases h1 : lowN s s.size 0 = true
    · rw [if_pos h1, if_pos h1, if_neg (by decide)]
    · rw [if_neg h1, if_neg h1]
      by_cases h2 : chain s s.size 0 = true
      · rw [if_pos h2, if_pos h2, if_pos rfl]
      · rw [if_neg h2, if_neg h2, if_neg (by decide)]
  rw [e]
  exact h
theorem wrong_is (s : ByteArray) : wrongN s = 0 ∨ wrongN s = 10 := by
  unfold wrongN
  repeat' split
  all_goals simp
abbrev Rw := Nat × Nat × Bool × ByteArray
def f31 (x : Rw) : S31 := row31 x.1 x.2
def f32 (x : Rw) : S32 := row32 x.1 x.2
/-- The rows of a text's lines. -/
def cutN : List ByteArray → Nat → List Rw → List Rw × Int × Int
  | [], _, out => (out, 0, 0)
  | p :: ps, n, out => if (contT p).2 = 0 then cutN ps (n + 1) (out ++ (rowsT (contT p).1).map fun x => (n, x)) else ([], (n : Int), (contT p).2)
theorem map_rows (n : Nat) (out : List Rw) (l : List (Nat × Bool × ByteArray)) : out.map f32 ++ l.map (row32 n) = (out ++ l.map fun x => (n, x)).map f32 := by
  rw [List.map_append, List.map_map]
  rfl
theorem map_rows1 (n : Nat) (out : List Rw) (l : List (Nat × Bool × ByteArray)) : out.map f31 ++ l.map (row31 n) = (out ++ l.map fun x => (n, x)).map f31 := by
  rw [List.map_append, List.map_map]
  rfl
theorem cont_size (p : ByteArray) : (contT p).1.size ≤ p.size := by
  unfold contT contN
  repeat' split
  all_goals first | (rw [ByteArray.size_extract]; omega) | exact Nat.zero_le _
theorem rowsT_len (c : ByteArray) : (rowsT c).length ≤ c.size := Nat.le_trans (rowsN_len _ _ _ _) (endN_le _ _)
theorem cut_go : ∀ (ps : List ByteArray) (n : Nat) (out : List Rw), n + ps.length ≤ 100000000 → out.length + total ps ≤ 100000000 → Ev (fun k => cutGo k ps (n : Int) (out.map f32)) ((cutN ps n out).1.map f32, (cutN ps n out).2)
  | [], n, out, _, _ => Ev.congr (f := fun _ => some (out.map f32, 0, 0)) (fun k => by rw [cutGo]) (Ev.now _)
  | p :: ps, n, out, hn, hl => by
    rw [total] at hl
    rw [List.length_cons] at hn
    refine Ev.congr (fun k => by rw [cutGo]) (Ev.bind (wrong_ev p (by omega)) ?_)
    rw [cutN]
    have hcs := cont_size p
    unfold contT at hcs ⊢
    by_cases hw : wrongN p = 0
    · rw [if_pos hw] at hcs ⊢
      refine Ev.congr (fun k => if_pos hw) (Ev.bind (rem_ev p (by omega)) ?_)
      have hr := rem_place p p.size 0 false false (by omega)
      obtain ⟨r, hr'⟩ : ∃ r, remN p p.size 0 false false = r := ⟨_, rfl⟩
      rw [hr'] at hr hcs ⊢
      unfold contN at hcs ⊢
      by_cases hb : r.2 = true
      · rw [if_pos hb] at hcs ⊢
        simp only [] at hcs ⊢
        rw [if_pos True.intro]
        have hlen := rowsT_len (p.extract 0 r.1.toNat)
        have ih := cut_go ps (n + 1) (out ++ (rowsT (p.extract 0 r.1.toNat)).map fun x => (n, x)) (by omega) (by rw [List.length_append, List.length_map]; omega)
        refine Ev.congr (f := fun k => ((strings_TrimRight.f (p.extract 0 r.1.toNat) ⟨#[32]⟩).bind fun t => ylines_rows.f k (n : Int) t).bind fun l => if ((out.map f32).length + l.length) * 40 ≤ 140737488355328 then cutGo k ps (wrap64 ((n : Int) + 1)) (out.map f32 ++ l) else none) (fun k => by rw [if_pos hb, if_pos hr, Option.bind_assoc]) (Ev.bind (rows_ev (p.extract 0 r.1.toNat) (by omega) n) ?_)
        refine Ev.congr (fun k => by rw [if_pos (by simp only [List.length_map]; omega), wi (by omega), map_rows]) ih
      · rw [if_neg hb]
        simp only []
        rw [if_neg (by decide)]
        exact Ev.congr (fun k => if_neg hb) (Ev.now _)
    · rw [if_neg hw]
      simp only []
      rw [if_neg (by decide)]
      have : wrongN p = 10 := by
        rcases wrong_is p with q | q
        · exact absurd q hw
        · exact q
      rw [this]
      exact Ev.congr (fun k => if_neg (by decide)) (Ev.now _)
theorem ref_go (x6 : List ByteArray) : ∀ (ps pre : List ByteArray) (out : List Rw), x6 = pre ++ ps → pre.length + ps.length ≤ 100000000 → out.length + total ps ≤ 100000000 → Ev (fun k => bosunref10_Cut.l0 k (out.map f31) x6 ((pre.length : Nat) : Int)) ((cutN ps pre.length out).1.map f31, (cutN ps pre.length out).2)
  | [], pre, out, hx, _, _ => by
    rw [List.append_nil] at hx
    exact Ev.step (f := fun _ => some (out.map f31, 0, 0)) (fun k => by rw [bosunref10_Cut.l0, if_neg (by rw [hx]; omega)]) (Ev.now _)
  | p :: ps, pre, out, hx, hn, hl => by
    rw [total] at hl
    rw [List.length_cons] at hn
    have hz : x6.length = pre.length + (ps.length + 1) := by rw [hx, List.length_append, List.length_cons]
    have hrd : rdOf ByteArray.empty x6 ((pre.length : Nat) : Int) = p := by
      rw [hx, rdOf, Int.toNat_natCast]
      simp
    have hcs := cont_size p
    have hlen := rowsT_len (contT p).1
    refine Ev.step (fun k => by rw [bosunref10_Cut.l0, if_pos (by omega), if_pos (by omega), hrd]) (Ev.bind (content_ev p (by omega)) ?_)
    rw [cutN]
    by_cases h0 : (contT p).2 = 0
    · rw [if_pos h0]
      have ih := ref_go x6 ps (pre ++ [p]) (out ++ (rowsT (contT p).1).map fun x => (pre.length, x)) (by rw [hx, List.append_assoc]; rfl) (by simp; omega) (by rw [List.length_append, List.length_map]; omega)
      rw [List.length_append, List.length_singleton] at ih
      refine Ev.congr (fun k => if_pos h0) (ref_rows (contT p).1 (by omega) x6 pre.length (by omega) _ (out.map f31) (by rw [List.length_map]; omega) ?_)
      rw [map_rows1]
      exact ih
    · rw [if_neg h0]
      exact Ev.congr (fun k => if_neg h0) (Ev.now _)
theorem cut_ev (s : ByteArray) (hs : s.size ≤ 1000000) : Ev (fun k => ylines_Cut.f k s) ((cutN (texts 10 s) 0 []).1.map f32, (cutN (texts 10 s) 0 []).2) := by
  have ht := texts_total s
  refine Ev.congr (fun k => by rw [ylines_Cut.f, if_pos (by omega), if_neg (by omega)]; rfl) (cut_go (texts 10 s) 0 [] (by omega) (by simp; omega))
theorem ref_ev (s : ByteArray) (hs : s.size ≤ 1000000) : Ev (fun k => bosunref10_Cut.f k s) ((cutN (texts 10 s) 0 []).1.map f31, (cutN (texts 10 s) 0 []).2) := by
  have ht := texts_total s
  exact Ev.congr (fun k => by rw [bosunref10_Cut.f, if_neg (by omega)]) (Ev.bind (lines_ev s (by omega)) (ref_go (texts 10 s) (texts 10 s) [] [] rfl (by simp; omega) (by simp; omega)))
end Go.Proofs.YticabhjmojcfoaaDoor.Pure
