/- container/heap's Init and Pop over the row behind its pointer: their contracts. No conditions beside those stated. -/
import Derived.Test.YthnbkhggbfnpcaaEvDn
import Derived.Test.YthnbkhggbfnpcaaEvWalk2
namespace Go.Proofs.Ythnbkhggbfnpcaa.Ev
open Go.RowKit Go.Proofs.YthnbkhggbfnpcaaW.PrintWords Go.Proofs.YthnbkhggbfnpcaaW.PrintLast Go.Proofs.YthnbkhggbfnpcaaW.PrintMore Go.Proofs.Ythnbkhggbfnpcaa.GEv
set_option linter.unusedVariables false
set_option linter.unusedSimpArgs false
def InitPost (w0 w : World) (g : Nat) (A : Option Addr) (c m : Nat) (F : Nat → S55) (e : Ending) (w' : World) : Prop := e = .returned (.tuple #[]) ∧ HS w0 w' g (.slice A m c) (row F m) ∧ Kept w w' (fun k => some k = (Value.slice A m c).ownBlock)
set_option maxHeartbeats 8000000 in
set_option maxRecDepth 100000 in
theorem heapInit.calls (w0 w : World) (g : Nat) (A : Option Addr) (c m : Nat) (f : Nat → S55) (hs : HS w0 w g (.slice A m c) (row f m)) (hm : m ≤ 1000) :
    Calls Try.prog 23 #[.iface 51 (.pointer (some ⟨g, 0, none⟩))] w (InitPost w0 w g A c m (initF lessI m (m / 2) f)) := by
  have eN := enters24
  have mN := run_len hs.cell
  have HS0 := Aside0.mk hs
  clear hs
  have ht : Int.tdiv (m : Int) 2 = ((m / 2 : Nat) : Int) := rfl
  have hd : (m : Int) / 2 = ((m / 2 : Nat) : Int) := rfl
  obtain ⟨q, hq⟩ : ∃ q, q = m / 2 := ⟨_, rfl⟩
  have hqm : q ≤ m := by omega
  rw [← hq] at ht hd ⊢
  clear hq
  go_enter Try.func23, Try.ntmps23
  go_wp2_with (go_at_fn 24; refine (len_at HS0.out).mono ?_; rintro e w2 ⟨rfl, rfl⟩)
  go_loopg [3] q (fun kq v3 w' => ∃ (f' : Nat → S55), v3 = .int .i64 ((kq : Int) - 1) ∧ kq ≤ 1000 ∧ Aside0 (initF lessI m kq f' = initF lessI m q f) ∧ Aside0 (HS w0 w' g (.slice A m c) (row f' m)) ∧ Aside0 (Kept w2 w' (fun k => some k = (Value.slice A m c).ownBlock)))
  case atStart => exact ⟨f, rfl, by omega, ⟨rfl⟩, HS0, ⟨Kept.refl _ _⟩⟩
  case round =>
    obtain ⟨f', rfl, hi', HD, HR, HK⟩ := hrel
    cases gk with
    | zero =>
      go_wp2
      first | go_end0 | ((try simp only [Exit.inBlock, Exit.then]); refine bodyPost_ret (results_none rfl _ _ _) rfl ?_)
      exact ⟨rfl, HD.out ▸ HR.out, HK.out⟩
    | succ k1 =>
      have e1 : ((k1 + 1 : Nat) : Int) - 1 = k1 := by omega
      simp only [e1]
      clear e1
      go_wp2_with (go_at_call 26; refine (down.calls w0 _ g A c m m k1 f' HR.out hm (Nat.le_refl _) (by omega)).mono ?_; rintro e w3 ⟨⟨b, rfl⟩, hr, hk⟩; have n0 := Aside0.mk hr; have n1 := Aside0.mk (HK.out.then_ hk (fun k q => Or.inl q)); clear HR HK; have HR := n0; have HK := n1; clear n0 n1 hr hk)
      go_roundg k1
      case measure => omega
      case rel => exact ⟨down lessI m m k1 f', by first | rfl | go_num, by omega, HD, HR, HK⟩
def itemV (x : S55) : Value := .agg #[.string x.f0.f0, .float .f64 x.f0.f1, .float .f64 x.f0.f2, .int .i64 x.f1]
def PopPost (w0 w : World) (g : Nat) (A : Option Addr) (c m : Nat) (F : Nat → S55) (x : S55) (e : Ending) (w' : World) : Prop := e = .returned (.iface 55 (itemV x)) ∧ HS w0 w' g (.slice A m c) (row F m) ∧ Kept w w' (fun k => k = g ∨ some k = (Value.slice A m c).ownBlock)
theorem row_take (f : Nat → S55) (m : Nat) : (row f (m + 1)).take m = row f m := by
  apply List.ext_getElem
  · simp [row]
  · intro k h1 h2
    simp [row]
theorem own_len (A : Option Addr) (n m c : Nat) : (Value.slice A n c).ownBlock = (Value.slice A m c).ownBlock := by
  cases A <;> rfl
theorem pop_at {w0 W : World} {g : Nat} {A : Option Addr} {c m : Nat} {f : Nat → S55} (h : HS w0 W g (.slice A (m + 1) c) (row f (m + 1))) (hm : m + 1 ≤ 1000) :
    Calls Try.prog 44 #[.pointer (some ⟨g, 0, none⟩)] W (PopPost w0 W g A c m f (f m)) := by
  have hr := Kd.R_reads' h.row
  have hl := row_len f (m + 1)
  obtain ⟨ad, e, c0, c1, c2, c3⟩ := at_T55 hr.2.2 (m : Int) (by omega) (by rw [hl]; omega)
  subst e
  rw [row_rd f (m + 1) (m : Int) (by omega) (by omega), Int.toNat_natCast] at c0 c1 c2 c3
  refine (RowPop.calls g ad m c _ _ _ _ W h.box (by omega) hr.2.1 c0 c1 c2 c3).mono ?_
  rintro e w' ⟨rfl, hb, hk, hlf⟩
  have hT := Kd.R_take h.row (m := m) (by rw [hl]; omega)
  rw [row_take] at hT
  have hne : ∀ k, some k = (Value.slice (some ad) (m + 1) c).ownBlock → k ≠ g := fun k q e => h.ne (by rw [← q, e])
  refine ⟨rfl, ⟨hb, h.ge, by rw [own_len _ m (m + 1)]; exact h.ne, R_any (Kd.R_keep hT hk hne), ?_⟩, ?_⟩
  · exact hlf w0 h.bel h.ge
  · exact Kept.of_keep (Kept.refl W _) hk (Or.inl (Or.inl rfl))
set_option maxHeartbeats 8000000 in
set_option maxRecDepth 100000 in
theorem heapPop.calls (w0 w : World) (g : Nat) (A : Option Addr) (c m : Nat) (f : Nat → S55) (hs : HS w0 w g (.slice A (m + 1) c) (row f (m + 1))) (hm : m + 1 ≤ 1000) :
    Calls Try.prog 25 #[.iface 51 (.pointer (some ⟨g, 0, none⟩))] w (PopPost w0 w g A c m (popF lessI m f) (popF lessI m f m)) := by
  have eN := enters24
  have eS := enters45
  have eP := enters44
  have mN := run_len hs.cell
  have mS := run_swap hs.cell
  have mP := @run_pop
  have HR := Aside0.mk hs
  have HK := Aside0.mk (Kept.refl w (fun k => k = g ∨ some k = (Value.slice A m c).ownBlock))
  clear hs
  have e1 : (((m + 1 : Nat) : Int) - 1) = m := by omega
  have HE := Aside0.mk e1
  clear e1
  go_enter Try.func25, Try.ntmps25
  go_wp2_with (first
    | (go_at_fn 24; refine (len_at HR.out).mono ?_; rintro e w2 ⟨rfl, rfl⟩)
    | (go_at_fn 45; refine (swap_n HR.out (x := 0) (y := m) (by omega) (by omega) (by omega) (by omega)).mono ?_; rintro e w2 ⟨rfl, hr, hk⟩; have n0 := Aside0.mk hr; have n1 := Aside0.mk (HK.out.then_ hk (fun k q => Or.inl (Or.inr (by rw [q]; exact own_len _ _ _ _)))); clear HR HK mN mS; have HR := n0; have HK := n1; clear n0 n1 hr hk)
    | (go_at_call 26; refine (down.calls w0 _ g A c (m + 1) m 0 (swapF f 0 m) HR.out hm (Nat.le_succ _) (by omega)).mono ?_; rintro e w3 ⟨⟨b, rfl⟩, hr, hk⟩; have n0 := Aside0.mk hr; have n1 := Aside0.mk (HK.out.then_ hk (fun k q => Or.inl (Or.inr (by rw [q]; exact own_len _ _ _ _)))); clear HR HK; have HR := n0; have HK := n1; clear n0 n1 hr hk)
    | (go_at_fn 44; refine (pop_at HR.out hm).mono ?_; rintro e w3 ⟨rfl, hr, hk⟩; have n0 := Aside0.mk hr; have n1 := Aside0.mk (HK.out.then_ hk (fun k q => Or.inl q)); clear HR HK; have HR := n0; have HK := n1; clear n0 n1 hr hk))
  go_ret
  exact ⟨rfl, HR.out, HK.out⟩
end Go.Proofs.Ythnbkhggbfnpcaa.Ev
