/- CkoneReads, the pure statement: the state of any bytes, or what is wrong with them, is the document's; for every input. -/
import Derived.Test.YtpmbdcljphpcnaaDoorCkDecode
import Derived.Test.YtpmbdcljphpcnaaDoorGCkCkoneReadsS
namespace Go.Proofs.YtpmbdcljphpcnaaDoor.Pure
open Go.RowKit Go.Proofs.YtpmbdcljphpcnaaDoor.GCk Go.Proofs.YtpmbdcljphpcnaaDoorW.PrintWords Go.Proofs.YtpmbdcljphpcnaaDoorW.PrintLast Go.Proofs.YtpmbdcljphpcnaaDoorW.PrintMore

theorem awake17 (k : Nat) (hk : 100 ≤ k) : bosunlaw17_Awake.f k = some true := by
  have h : bosunlaw17_Awake.f 100 = some true := by decide +kernel
  exact at_rounds (fun k => bosunlaw17_Awake.mono k) hk h
theorem of_loop (l : List S66) (hl : l.length ≤ 100000000) (a : Int) : ∀ (m i k : Nat) (acc : List S67), i + m = l.length → acc.length ≤ i → m < k →
    bosunlaw17_Of.l0 k l (l.length : Int) (i : Int) a acc = some (a, acc ++ (l.drop i).map toR)
  | 0, i, k, acc, h, ha, hk => by
    obtain ⟨k, rfl⟩ : ∃ k', k = k' + 1 := ⟨k - 1, by omega⟩
    rw [bosunlaw17_Of.l0, if_neg (by omega), List.drop_eq_nil_of_le (by omega)]
    simp
  | m + 1, i, k, acc, h, ha, hk => by
    obtain ⟨k, rfl⟩ : ∃ k', k = k' + 1 := ⟨k - 1, by omega⟩
    have hi : i < l.length := by omega
    have hii : (i : Int) < (l.length : Int) := by omega
    have hw : wrap64 ((i : Int) + 1) = ((i + 1 : Nat) : Int) := by rw [i64_id (by omega) (by omega)]; omega
    rw [bosunlaw17_Of.l0, if_pos hii, if_pos (by omega), if_pos hii, if_pos (by omega), hw, rd66 l i hi]
    refine (of_loop l hl a m (i + 1) k _ (by omega) (by rw [List.length_append, List.length_singleton]; omega) (by omega)).trans ?_
    rw [List.drop_eq_getElem_cons hi, List.map_cons, List.append_assoc]
    rfl
theorem of_is (l : List S66) (hl : l.length ≤ 100000000) (a : Int) (k : Nat) (hk : l.length < k) : bosunlaw17_Of.f k a l = some (a, l.map toR) := by
  rw [bosunlaw17_Of.f]
  exact of_loop l hl a l.length 0 k [] (by omega) (Nat.le_refl _) hk
theorem same_loop (l : List S67) (hl : l.length ≤ 100000000) (a : Int) : ∀ (m i k : Nat), i + m = l.length → m < k → bosunref17_Same.l0 k (i : Int) a l a l = some true
  | 0, i, k, h, hk => by
    obtain ⟨k, rfl⟩ : ∃ k', k = k' + 1 := ⟨k - 1, by omega⟩
    rw [bosunref17_Same.l0, if_neg (by omega)]
  | m + 1, i, k, h, hk => by
    obtain ⟨k, rfl⟩ : ∃ k', k = k' + 1 := ⟨k - 1, by omega⟩
    have hii : (i : Int) < (l.length : Int) := by omega
    have hw : wrap64 ((i : Int) + 1) = ((i + 1 : Nat) : Int) := by rw [i64_id (by omega) (by omega)]; omega
    rw [bosunref17_Same.l0, if_pos hii, if_pos (by omega), if_pos hii, hw]
    rw [if_neg (by simp)]
    exact same_loop l hl a m (i + 1) k (by omega) (by omega)
theorem same_is (l : List S67) (hl : l.length ≤ 100000000) (a : Int) (k : Nat) (hk : l.length + 1 < k) : bosunref17_Same.f k a l a l = some true := by
  obtain ⟨k, rfl⟩ : ∃ k', k = k' + 1 := ⟨k - 1, by omega⟩
  have hne : ((l.length : Int) != (l.length : Int)) = false := by simp
  rw [bosunref17_Same.f, if_pos rfl, hne, bosunref17_Same.j0, if_neg (show ¬ (false = true) by decide)]
  exact same_loop l hl a l.length 0 k (by omega) (by omega)
theorem CkoneReads : bosunlaw17_CkoneReads.Pure := by
  intro b hb
  refine ⟨70000, ?_⟩
  rw [bosunlaw17_CkoneReads.f]
  by_cases h : (b.size : Int) > 20000
  · rw [if_pos h, awake17 70000 (by omega)]
    rfl
  · obtain ⟨r, h1, h2, h3⟩ := dec_is b (by omega) 70000 (by omega)
    rw [if_neg h, h1, h3, Option.bind_some, Option.bind_some, awake17 70000 (by omega), Option.bind_some, if_pos rfl, if_pos rfl, of_is r.2.1 (by omega) r.1 70000 (by omega), Option.bind_some]
    show (bosunref17_Same.f 70000 r.1 (r.2.1.map toR) r.1 (r.2.1.map toR)).bind _ = _
    rw [same_is _ (by rw [List.length_map]; omega) _ _ (by rw [List.length_map]; omega)]
    rfl
end Go.Proofs.YtpmbdcljphpcnaaDoor.Pure
