/- ValueAlike's plain law. No conditions beside those stated. -/
import Derived.Test.YtnkkbiabloodaaaDoorVaAlike
import Derived.Test.YtnkkbiabloodaaaDoorGVaValueAlikeS
namespace Go.Proofs.YtnkkbiabloodaaaDoor.Pure
open Go.RowKit Go.Proofs.YtnkkbiabloodaaaDoor.GVa Go.Proofs.YtnkkbiabloodaaaDoorW.PrintWords Go.Proofs.YtnkkbiabloodaaaDoorW.PrintMore
theorem near_run {x y : S29} (hn : Near x y) (hx : Ok 82 x) (hy : Ok 82 y) (k : Nat) (hk : 100000 ≤ k) : bosunlaw05_ValueAlike.j3 (k + 1) x.f0 x.f1 x.f2 x.f3 x.f4 x.f5 y.f0 y.f1 y.f2 y.f3 y.f4 y.f5 = some true := by
  have e1 := awake_ev k (by omega)
  have e2 := (vsm_ev 82 x y hx hy k (by omega)).trans (congrArg some (hn.same hx))
  have e3 := (vsm_ev 82 y x hy hx k (by omega)).trans (congrArg some (hn.symm.same hy))
  have e4 := vchk_ev hx (by omega) (k := k) (by omega)
  have e5 := vchk_ev hy (by omega) (k := k) (by omega)
  have e6 := vdep_ev 82 x hx (by omega) k (by omega)
  have e7 := vdep_ev 82 y hy (by omega) k (by omega)
  rw [← hn.dep, ← hn.wr] at e5
  rw [← hn.dep] at e7
  rw [bosunlaw05_ValueAlike.j3, e1, e2, e3, e4, e5, e6, e7]
  simp
theorem ok_near {x y : S29} (hn : Near x y) (hx : Ok 82 x) (h3 : y.f3.size ≤ 100000) : Ok 82 y := by
  obtain ⟨_, h2, h3', h4, h5⟩ := hx
  exact ⟨h3, hn.l ▸ h2, hn.p ▸ h3', hn.l ▸ h4, hn.p ▸ h5⟩
theorem ValueAlike : bosunlaw05_ValueAlike.Pure := by
  intro l a1 a2 ⟨hl0, hl1, hl⟩ ha h2
  obtain ⟨k, hk⟩ : ∃ k, l.length + 200000 ≤ k := ⟨_, Nat.le_refl _⟩
  obtain ⟨b, hb, hb2⟩ := small_ev (l := l) (by omega) (fun p hp => (hl p hp).2.2.2.2) (k := k + 4) (by omega)
  refine ⟨k + 4, ?_⟩
  rw [bosunlaw05_ValueAlike.f, hb]
  have hA : bosunlaw05_ValueAlike.j0 (k + 4) l a1 a2 true = some true := by
    rw [bosunlaw05_ValueAlike.j0, if_pos rfl, awake_ev (k + 3) (by omega)]; rfl
  show (if b = true then bosunlaw05_ValueAlike.j0 (k + 4) l a1 a2 (decide ((a1.size : Int) > 5000)) else bosunlaw05_ValueAlike.j0 (k + 4) l a1 a2 true) = some true
  split
  · rename_i hbt
    obtain ⟨h80, h40⟩ := hb2 hbt
    by_cases hs : (a1.size : Int) > 5000
    · rw [decide_eq_true hs]; exact hA
    · rw [decide_eq_false hs]
      obtain ⟨x, hx, hO⟩ := bVal_ev h80 h40
      have hB : bosunlaw05_Build.f l = some (x.f0, x.f1, x.f2, x.f3, x.f4, x.f5, x.f0, x.f1, x.f2, x.f3, toRL x.f4, toRP x.f5) := by rw [bosunlaw05_Build.f, hx]; rfl
      have key : ∀ y : S29, Near x y → y.f3.size ≤ 100000 → bosunlaw05_ValueAlike.j3 (k + 1) x.f0 x.f1 x.f2 x.f3 x.f4 x.f5 y.f0 y.f1 y.f2 y.f3 y.f4 y.f5 = some true := fun y hn h3 => near_run hn hO (ok_near hn hO h3) k (by omega)
      rw [bosunlaw05_ValueAlike.j0, if_neg (by decide), hB]
      show (if x.f0 = 3 then bosunlaw05_ValueAlike.j1 (k + 3) a2 x.f0 x.f1 x.f2 x.f3 x.f4 x.f5 x.f0 x.f1 x.f2 x.f3 x.f4 x.f5 else bosunlaw05_ValueAlike.j1 (k + 3) a2 x.f0 x.f1 x.f2 x.f3 x.f4 x.f5 x.f0 x.f1 x.f2 a1 x.f4 x.f5) = some true
      have h3 : ∀ s : ByteArray, (x.f0 = 3 → x.f3 = s) → s.size ≤ 100000 → bosunlaw05_ValueAlike.j1 (k + 3) a2 x.f0 x.f1 x.f2 x.f3 x.f4 x.f5 x.f0 x.f1 x.f2 s x.f4 x.f5 = some true := by
        intro s hs3 hsz
        have h2' : ∀ q : Int, (x.f0 = 2 → x.f2 = q) → bosunlaw05_ValueAlike.j2 (k + 2) x.f0 x.f1 x.f2 x.f3 x.f4 x.f5 x.f0 x.f1 q s x.f4 x.f5 = some true := by
          intro q hq
          rw [bosunlaw05_ValueAlike.j2]
          split
          · exact key ⟨x.f0, x.f1, q, s, x.f4, x.f5⟩ ⟨rfl, fun _ => rfl, hq, hs3, rfl, rfl⟩ hsz
          · rename_i h1
            exact key ⟨x.f0, !x.f1, q, s, x.f4, x.f5⟩ ⟨rfl, fun e => absurd e h1, hq, hs3, rfl, rfl⟩ hsz
        rw [bosunlaw05_ValueAlike.j1]
        split
        · exact h2' x.f2 (fun _ => rfl)
        · rename_i h2n
          exact h2' a2 (fun e => absurd e h2n)
      have hx3 : x.f3.size ≤ 100000 := hO.1
      split
      · exact h3 x.f3 (fun _ => rfl) hx3
      · rename_i h3n
        exact h3 a1 (fun e => absurd e h3n) (by omega)
  · exact hA
end Go.Proofs.YtnkkbiabloodaaaDoor.Pure
