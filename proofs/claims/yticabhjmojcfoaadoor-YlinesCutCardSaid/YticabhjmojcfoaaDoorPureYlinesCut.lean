/- YlinesCut, the pure statement: the rows of any text, or what is wrong and where, are the document's; for every input. -/
import Derived.Test.YticabhjmojcfoaaDoorYl
import Derived.Test.YticabhjmojcfoaaDoorGUtYlinesCutS
namespace Go.Proofs.YticabhjmojcfoaaDoor.Pure
open Go.RowKit Go.Proofs.YticabhjmojcfoaaDoor.GUt Go.Proofs.YticabhjmojcfoaaDoor.Split Go.Proofs.YticabhjmojcfoaaDoorW.PrintWords Go.Proofs.YticabhjmojcfoaaDoorW.PrintLast Go.Proofs.YticabhjmojcfoaaDoorW.PrintMore

theorem awake10 : Ev (fun k => bosunlaw10_Awake.f k) true := by
  have h : bosunlaw10_Awake.f 40 = some true := by decide +kernel
  exact Ev.of (fun k => bosunlaw10_Awake.mono k) h
theorem rd32 (L : List Rw) (i : Nat) (h : i < L.length) : rd_T32 (L.map f32) (i : Int) = f32 L[i] := by
  rw [rd_T32, Int.toNat_natCast]
  simp [h]
theorem rd31 (L : List Rw) (i : Nat) (h : i < L.length) : rd_T31 (L.map f31) (i : Int) = f31 L[i] := by
  rw [rd_T31, Int.toNat_natCast]
  simp [h]
theorem law_loop (L : List Rw) (hL : L.length ≤ 1000000000) : ∀ (m i : Nat), i + m = L.length → Ev (fun k => bosunlaw10_YlinesCut.l0 k (L.map f32) (L.map f31) (L.length : Int) (i : Int)) true
  | 0, i, h => Ev.step (fun k => by rw [bosunlaw10_YlinesCut.l0, if_neg (by omega)]) (Ev.bind awake10 (Ev.now _))
  | m + 1, i, h => by
    have e1 := rd32 L i (by omega)
    have e2 := rd31 L i (by omega)
    refine Ev.step (fun k => by
      rw [bosunlaw10_YlinesCut.l0, if_pos (by omega), if_pos (by omega), if_pos (by rw [List.length_map]; omega), if_pos (by rw [List.length_map]; omega), e1, e2, if_neg (by simp [f31, f32, row31, row32]), wi (by omega)]) (law_loop L hL m (i + 1) (by omega))
theorem cutN_len : ∀ (ps : List ByteArray) (n : Nat) (out : List Rw), (cutN ps n out).1.length ≤ out.length + total ps
  | [], _, out => Nat.le_refl _
  | p :: ps, n, out => by
    have ih := cutN_len ps (n + 1) (out ++ (rowsT (contT p).1).map fun x => (n, x))
    have h1 := cont_size p
    have h2 := rowsT_len (contT p).1
    rw [List.length_append, List.length_map] at ih
    rw [cutN, total]
    split
    · omega
    · simp
theorem YlinesCut : bosunlaw10_YlinesCut.Pure := by
  intro s hs
  apply Ev.rounds
  by_cases h : (s.size : Int) > 3000
  · exact Ev.congr (fun k => by rw [bosunlaw10_YlinesCut.f, if_pos h]) (Ev.bind awake10 (Ev.now _))
  · refine Ev.congr (fun k => by rw [bosunlaw10_YlinesCut.f, if_neg h]) (Ev.bind (cut_ev s (by omega)) (Ev.bind (ref_ev s (by omega)) ?_))
    have hl := cutN_len (texts 10 s) 0 []
    have ht := texts_total s
    obtain ⟨L, n, e, hL⟩ : ∃ L n e, cutN (texts 10 s) 0 [] = (L, n, e) := ⟨_, _, _, rfl⟩
    rw [hL] at hl ⊢
    simp only [List.length_nil] at hl
    refine Ev.congr (f := fun k => bosunlaw10_YlinesCut.j0 k (L.map f32) (L.map f31) false) (fun k => by
      simp only [if_true]
      rw [show (((L.map f32).length : Int) != ((L.map f31).length : Int)) = false by simp]) ?_
    refine Ev.step (fun k => by rw [bosunlaw10_YlinesCut.j0, if_neg Bool.false_ne_true, List.length_map]; rfl) (law_loop L (by omega) L.length 0 (by omega))
end Go.Proofs.YticabhjmojcfoaaDoor.Pure
