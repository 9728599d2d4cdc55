/- YlinesPads, the pure statement: empty lines and remarks, and blanks and remarks at lines' ends, change nothing but numbers of lines; for every input. -/
import Derived.Test.YticabhjmojcfoaaDoorYlPads
import Derived.Test.YticabhjmojcfoaaDoorGUtYlinesPadsS
namespace Go.Proofs.YticabhjmojcfoaaDoor.Pure
open Go.RowKit Go.Proofs.YticabhjmojcfoaaDoor.GUt Go.Proofs.YticabhjmojcfoaaDoor.Split Go.Proofs.YticabhjmojcfoaaDoorW.PrintWords Go.Proofs.YticabhjmojcfoaaDoorW.PrintLast Go.Proofs.YticabhjmojcfoaaDoorW.PrintMore

theorem awake10p : Ev (fun k => bosunlaw10_Awake.f k) true := by
  have h : bosunlaw10_Awake.f 40 = some true := by decide +kernel
  exact Ev.of (fun k => bosunlaw10_Awake.mono k) h
theorem awakeB : Ev (fun k => (bosunlaw10_Awake.f k).bind fun t => some t) true := Ev.bind awake10p (Ev.now _)
theorem rd32p (L : List Rw) (i : Nat) (h : i < L.length) : rd_T32 (L.map f32) (i : Int) = f32 L[i] := by
  rw [rd_T32, Int.toNat_natCast]
  simp [h]
theorem pads_l2 (L M : List Rw) (hL : L.length ≤ 1000000000) (hM : M.length = L.length) (he : L.map (·.2) = M.map (·.2)) : ∀ (m i : Nat), i + m = L.length → Ev (fun k => bosunlaw10_YlinesPads.l2 k (L.map f32) (M.map f32) (L.length : Int) (i : Int)) true
  | 0, i, h => Ev.step (fun k => by rw [bosunlaw10_YlinesPads.l2, if_neg (by omega)]) awakeB
  | m + 1, i, h => by
    have e1 := rd32p L i (by omega)
    have e2 := rd32p M i (by omega)
    have e3 : (L[i]'(by omega)).2 = (M[i]'(by omega)).2 := by
      have : (L.map (·.2))[i]'(by rw [List.length_map]; omega) = (M.map (·.2))[i]'(by rw [List.length_map]; omega) := by simp only [he]
      rw [List.getElem_map, List.getElem_map] at this
      exact this
    have g1 : (f32 (L[i]'(by omega))).f1 = (f32 (M[i]'(by omega))).f1 := by simp only [f32, row32, e3]
    have g2 : (f32 (L[i]'(by omega))).f2 = (f32 (M[i]'(by omega))).f2 := by simp only [f32, row32, e3]
    have g3 : (f32 (L[i]'(by omega))).f3 = (f32 (M[i]'(by omega))).f3 := by simp only [f32, row32, e3]
    exact Ev.step (fun k => by
      rw [bosunlaw10_YlinesPads.l2, if_pos (by omega), if_pos (by omega), if_pos (by rw [List.length_map]; omega), if_pos (by rw [List.length_map]; omega), e1, e2, if_pos g1, if_neg (by rw [g2]; simp), if_pos (by rw [g3]), wi (by omega)]) (pads_l2 L M hL hM he m (i + 1) (by omega))
theorem cutN_lenp : ∀ (ps : List ByteArray) (n : Nat) (out : List Rw), (cutN ps n out).1.length ≤ out.length + total ps
  | [], _, out => Nat.le_refl _
  | p :: ps, n, out => by
    have ih := cutN_lenp ps (n + 1) (out ++ (rowsT (contT p).1).map fun x => (n, x))
    have h1 := cont_size p
    have h2 := rowsT_len (contT p).1
    rw [List.length_append, List.length_map] at ih
    rw [cutN, total]
    split
    · omega
    · simp
theorem pads_end (a b : ByteArray) (ha : a.size ≤ 1000000) (hb : b.size ≤ 1000000) (h : Rel a b) : Ev (fun k => (ylines_Cut.f k a).bind fun bt177 => (ylines_Cut.f k b).bind fun bt182 => if bt177.2.2 = bt182.2.2 then bosunlaw10_YlinesPads.j3 k bt177.1 bt182.1 ((bt177.1.length : Int) != (bt182.1.length : Int)) else bosunlaw10_YlinesPads.j3 k bt177.1 bt182.1 true) true := by
  refine Ev.bind (cut_ev a ha) (Ev.bind (cut_ev b hb) ?_)
  obtain ⟨h1, h2⟩ := h.same 0 0 [] [] rfl
  have hl := cutN_lenp (texts 10 a) 0 []
  have ht := texts_total a
  obtain ⟨L, n, e, hL⟩ : ∃ L n e, cutN (texts 10 a) 0 [] = (L, n, e) := ⟨_, _, _, rfl⟩
  obtain ⟨M, n', e', hM⟩ : ∃ L n e, cutN (texts 10 b) 0 [] = (L, n, e) := ⟨_, _, _, rfl⟩
  rw [hL] at hl h1 h2
  rw [hM] at h1 h2
  rw [hL, hM]
  simp only [] at h1 h2
  simp only [List.length_nil] at hl
  have hz : M.length = L.length := by
    have := congrArg List.length h2
    rw [List.length_map, List.length_map] at this
    omega
  refine Ev.congr (f := fun k => bosunlaw10_YlinesPads.j3 k (L.map f32) (M.map f32) false) (fun k => by
    simp only []
    rw [if_pos h1, show (((L.map f32).length : Int) != ((M.map f32).length : Int)) = false by simp [hz]]) ?_
  exact Ev.step (fun k => by rw [bosunlaw10_YlinesPads.j3, if_neg Bool.false_ne_true, List.length_map]; rfl) (pads_l2 L M (by omega) hz h2 L.length 0 (by omega))
theorem pads_l1 (x1 : List Int) (hpos : ∀ i : Int, 0 ≤ rd x1 i) (a b s : ByteArray) (lines : List ByteArray) (i : Nat) (hi : i ≤ 1000) (hs : s.size ≤ 100) (ha : a.size ≤ 100000) (hb : b.size ≤ 100000)
    (R : ∀ p ∈ pads, Good s → Ev (fun k => bosunlaw10_YlinesPads.l0 k x1 (a ++ (s ++ ⟨#[10]⟩)) (b ++ ((s ++ p) ++ ⟨#[10]⟩)) lines (lines.length : Int) ((i + 1 : Nat) : Int)) true) : ∀ m j : Nat, j + m = s.size → (∀ j' : Nat, j' < j → bt s (j' : Int) ≠ 10 ∧ bt s (j' : Int) ≠ 35 ∧ bt s (j' : Int) ≠ 34) →
    Ev (fun k => bosunlaw10_YlinesPads.l1 k x1 a b (i : Int) s lines (lines.length : Int) (i : Int) (s.size : Int) (j : Int)) true
  | 0, j, h, hg => by
    have good : Good s := fun j' hj' => hg j' (by omega)
    have z1 : ∀ x : ByteArray, (x ++ (⟨#[10]⟩ : ByteArray)).size = x.size + 1 := fun x => ByteArray.size_append
    have w1 := wi (i := i) (by omega)
    by_cases hx : (i : Int) < (x1.length : Int)
    · obtain ⟨q, hq⟩ : ∃ q, rd x1 (i : Int) = q := ⟨_, rfl⟩
      have hq0 : 0 ≤ Int.tmod q 6 := Int.tmod_nonneg _ (by rw [← hq]; exact hpos _)
      have hq6 : Int.tmod q 6 < 6 := Int.tmod_lt_of_pos q (by decide)
      obtain ⟨p, hp⟩ : ∃ p, rdOf ByteArray.empty ([(⟨#[]⟩ : ByteArray),(⟨#[32]⟩ : ByteArray),(⟨#[32,35,32,120]⟩ : ByteArray),(⟨#[10]⟩ : ByteArray),(⟨#[10,32,32,35,32,34]⟩ : ByteArray),(⟨#[32,32,32]⟩ : ByteArray)] : List ByteArray) (Int.tmod q 6) = p := ⟨_, rfl⟩
      have hc : Int.tmod q 6 = 0 ∨ Int.tmod q 6 = 1 ∨ Int.tmod q 6 = 2 ∨ Int.tmod q 6 = 3 ∨ Int.tmod q 6 = 4 ∨ Int.tmod q 6 = 5 := by omega
      have hpm : p ∈ pads ∧ p.size ≤ 6 := by
        rw [← hp]
        rcases hc with c | c | c | c | c | c <;> rw [c] <;> exact ⟨by simp [rdOf, pads], by decide⟩
      have zp : (s ++ p).size = s.size + p.size := ByteArray.size_append
      refine Ev.step (fun k => ?_) (R p hpm.1 good)
      rw [bosunlaw10_YlinesPads.l1, if_neg (by omega), if_pos (by omega), if_pos (by rw [z1]; omega), if_pos hx, Option.bind_some, if_pos (by omega), hq, if_pos hq0, if_pos (by simp only [List.length_cons, List.length_nil]; omega), hp, if_pos (by omega), if_pos (by omega), if_pos (by rw [z1, zp]; omega), w1]
    · have e : s ++ (⟨#[]⟩ : ByteArray) = s := app_nil s
      have r := R ⟨#[]⟩ (by simp [pads]) good
      rw [e] at r
      exact Ev.step (fun k => by rw [bosunlaw10_YlinesPads.l1, if_neg (by omega), if_pos (by omega), if_pos (by rw [z1]; omega), if_neg hx, if_pos (by rw [z1]; omega), w1]) r
  | m + 1, j, h, hg => by
    have h1 : (j : Int) < (s.size : Int) := by omega
    by_cases c1 : bt s (j : Int) = 10
    · exact Ev.step (fun k => by rw [bosunlaw10_YlinesPads.l1, if_pos h1, if_pos (by omega), if_pos h1, if_pos c1]) awakeB
    by_cases c2 : bt s (j : Int) = 35
    · exact Ev.step (fun k => by rw [bosunlaw10_YlinesPads.l1, if_pos h1, if_pos (by omega), if_pos h1, if_neg c1, if_pos c2]) awakeB
    by_cases c3 : bt s (j : Int) = 34
    · exact Ev.step (fun k => by rw [bosunlaw10_YlinesPads.l1, if_pos h1, if_pos (by omega), if_pos h1, if_neg c1, if_neg c2, if_pos c3]) awakeB
    refine Ev.step (fun k => by rw [bosunlaw10_YlinesPads.l1, if_pos h1, if_pos (by omega), if_pos h1, if_neg c1, if_neg c2, if_neg c3, wi (by omega)]) (pads_l1 x1 hpos a b s lines i hi hs ha hb R m (j + 1) (by omega) (fun j' hj' => ?_))
    by_cases q : j' = j
    · rw [q]; exact ⟨c1, c2, c3⟩
    · exact hg j' (by omega)
theorem bound1 {a s n : Nat} (ha : a ≤ 101 * n) (hs : s ≤ 100) : a + (s + 1) ≤ 101 * (n + 1) := by omega
theorem bound2 {a s p n : Nat} (ha : a ≤ 107 * n) (hs : s ≤ 100) (hp : p ≤ 6) : a + (s + p + 1) ≤ 107 * (n + 1) := by omega
theorem pads_l0 (x1 : List Int) (hpos : ∀ i : Int, 0 ≤ rd x1 i) (lines : List ByteArray) (hz : lines.length ≤ 30) : ∀ (ss pre : List ByteArray) (a b : ByteArray), lines = pre ++ ss → a.size ≤ 101 * pre.length → b.size ≤ 107 * pre.length → Rel a b →
    Ev (fun k => bosunlaw10_YlinesPads.l0 k x1 a b lines (lines.length : Int) ((pre.length : Nat) : Int)) true
  | [], pre, a, b, hx, ha, hb, h => by
    rw [List.append_nil] at hx
    subst hx
    exact Ev.step (fun k => by rw [bosunlaw10_YlinesPads.l0, if_neg (by omega)]) (pads_end a b (by omega) (by omega) h)
  | s :: ss, pre, a, b, hx, ha, hb, h => by
    have hlen : lines.length = pre.length + (ss.length + 1) := by rw [hx, List.length_append, List.length_cons]
    have hrd : rdOf ByteArray.empty lines ((pre.length : Nat) : Int) = s := by
      rw [hx, rdOf, Int.toNat_natCast]
      simp
    have z1 : ∀ x : ByteArray, (x ++ (⟨#[10]⟩ : ByteArray)).size = x.size + 1 := fun x => ByteArray.size_append
    by_cases hs : (s.size : Int) > 100
    · exact Ev.step (fun k => by rw [bosunlaw10_YlinesPads.l0, if_pos (by omega), if_pos (by omega), if_pos (by omega), hrd, if_pos hs]) awakeB
    · refine Ev.step (fun k => by rw [bosunlaw10_YlinesPads.l0, if_pos (by omega), if_pos (by omega), if_pos (by omega), hrd, if_neg hs]; rfl) (pads_l1 x1 hpos a b s lines pre.length (by omega) (by omega) (by omega) (by omega) (fun p hp hg => ?_) s.size 0 (by omega) (fun j hj => absurd hj (by omega)))
      have hp6 : p.size ≤ 6 := by
        have : ∀ p ∈ pads, p.size ≤ 6 := by decide
        exact this p hp
      have hs' : s.size ≤ 100 := by omega
      have hA : (a ++ (s ++ (⟨#[10]⟩ : ByteArray))).size = a.size + (s.size + 1) := by rw [ByteArray.size_append, z1]
      have hB : (b ++ ((s ++ p) ++ (⟨#[10]⟩ : ByteArray))).size = b.size + (s.size + p.size + 1) := by rw [ByteArray.size_append, z1, ByteArray.size_append]
      have hlp : (pre ++ [s]).length = pre.length + 1 := by rw [List.length_append, List.length_singleton]
      have q1 : (a ++ (s ++ (⟨#[10]⟩ : ByteArray))).size ≤ 101 * (pre ++ [s]).length := by
        rw [hA, hlp]
        exact bound1 ha hs'
      have q2 : (b ++ ((s ++ p) ++ (⟨#[10]⟩ : ByteArray))).size ≤ 107 * (pre ++ [s]).length := by
        rw [hB, hlp]
        exact bound2 hb hs' hp6
      have q3 := h.line hg hp
      clear hA hB z1
      obtain ⟨A, hAe⟩ : ∃ A, a ++ (s ++ (⟨#[10]⟩ : ByteArray)) = A := ⟨_, rfl⟩
      obtain ⟨B, hBe⟩ : ∃ B, b ++ ((s ++ p) ++ (⟨#[10]⟩ : ByteArray)) = B := ⟨_, rfl⟩
      rw [hAe] at q1 q3 ⊢
      rw [hBe] at q2 q3 ⊢
      have ih := pads_l0 x1 hpos lines hz ss (pre ++ [s]) A B (by rw [hx, List.append_assoc]; rfl) q1 q2 q3
      rw [List.length_append, List.length_singleton] at ih
      exact ih
theorem YlinesPads : bosunlaw10_YlinesPads.Pure := by
  intro lines x1 hl hx
  apply Ev.rounds
  have hpos : ∀ i : Int, 0 ≤ rd x1 i := by
    intro i
    unfold rd
    by_cases h : i.toNat < x1.length
    · have e : x1.getD i.toNat 0 = x1[i.toNat] := by simp [h]
      rw [e]
      have := hx.2.2 _ (List.getElem_mem h)
      simp [Lit.wf, IntKind.min, IntKind.max, IntKind.bits, IntKind.signed] at this
      omega
    · have e : x1.getD i.toNat 0 = 0 := by simp [h]
      rw [e]
      exact Int.le_refl _
  have long : ∀ x, x = true → Ev (fun k => bosunlaw10_YlinesPads.j0 k lines x1 x) true := by
    rintro x rfl
    exact Ev.step (fun k => by rw [bosunlaw10_YlinesPads.j0, if_pos rfl]) awakeB
  by_cases h1 : (lines.length : Int) > 30
  · exact Ev.congr (fun k => by rw [bosunlaw10_YlinesPads.f, if_pos h1]) (long true rfl)
  by_cases h2 : (x1.length : Int) > 30
  · exact Ev.congr (fun k => by rw [bosunlaw10_YlinesPads.f, if_neg h1, decide_eq_true h2]) (long true rfl)
  · refine Ev.congr (fun k => by rw [bosunlaw10_YlinesPads.f, if_neg h1, decide_eq_false h2]) ?_
    exact Ev.step (fun k => by rw [bosunlaw10_YlinesPads.j0, if_neg Bool.false_ne_true]; rfl) (pads_l0 x1 hpos lines (by omega) lines [] ⟨#[]⟩ ⟨#[]⟩ rfl (Nat.zero_le _) (Nat.zero_le _) Rel.nil)
end Go.Proofs.YticabhjmojcfoaaDoor.Pure
