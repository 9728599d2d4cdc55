/- evict's two closures: their contracts. No conditions beside those stated. -/
import Derived.Test.YthnbkhggbfnpcaaEvHeap2
namespace Go.Proofs.Ythnbkhggbfnpcaa.Ev
open Go.RowKit Go.Proofs.YthnbkhggbfnpcaaW.PrintWords Go.Proofs.YthnbkhggbfnpcaaW.PrintLast Go.Proofs.YthnbkhggbfnpcaaW.PrintMore Go.Proofs.Ythnbkhggbfnpcaa.GEv
set_option linter.unusedVariables false
set_option linter.unusedSimpArgs false
/-- What a closure does: it answers, its own blocks (below b1) move on, the others stay. -/
def MorePost {σ : Type} (St : σ → World → Prop) (b1 lo : Nat) (r : Bool × σ) (W : World) (e : Ending) (W' : World) : Prop :=
  e = .returned (.bool r.1) ∧ (r.1 = true → St r.2 W') ∧ (∀ k, b1 ≤ k → k < W.heap.size → W'.heap[k]? = W.heap[k]?) ∧ W.heap.size ≤ W'.heap.size ∧ Lifts lo W W'
structure More {σ : Type} (b1 lo fn : Nat) (lb : Array Value) (St : σ → World → Prop) (step : σ → S27 → Bool × σ) : Prop where
  run : ∀ s (x : S27) W, St s W → Calls Try.prog fn (#[.agg #[.string x.f0, .float .f64 x.f1, .float .f64 x.f2]] ++ lb) W (MorePost St b1 lo (step s x) W)
  stab : ∀ s W W', St s W → (∀ k, k < b1 → W'.heap[k]? = W.heap[k]?) → St s W'
  enters : ∀ args w, (callFunc fn args).run Try.prog w = .ok (.enter fn args) w
/-- First's: k counts down. -/
def stepK (k : Int) (_ : S27) : Bool × Int := (decide (0 < wrap64 (k - 1)), wrap64 (k - 1))
def StK (b1 gk : Nat) (k : Int) (W : World) : Prop := W.heap[gk]? = some (.cells #[.int .i64 k] 3 (0, 0))
set_option maxHeartbeats 4000000 in
theorem moreK (b1 lo gk : Nat) (h1 : gk < b1) (h2 : lo ≤ gk) : More b1 lo 17 #[.pointer (some ⟨gk, 0, none⟩)] (StK b1 gk) stepK where
  run := by
    intro k x W h
    have h' : W.heap[gk]? = some (.cells #[.int .i64 k] 3 (0, 0)) := h
    have hlt := blk_lt h'
    have hbx := blk_alloc h' (.cells #[.string x.f0, .float .f64 x.f1, .float .f64 x.f2] 27)
    have hc : (W.alloc (.cells #[.string x.f0, .float .f64 x.f1, .float .f64 x.f2] 27)).cell? ⟨gk, 0, none⟩ = some (.int .i64 k) := (blk_cell hbx 0).trans rfl
    have hf := blk_frozen hbx 0
    have HX := Aside0.mk hbx
    have HL := Aside0.mk hlt
    clear h h' hbx hlt
    show Calls Try.prog 17 #[.agg #[.string x.f0, .float .f64 x.f1, .float .f64 x.f2], .pointer (some ⟨gk, 0, none⟩)] W _
    have hgt_ := gtr_float
    have hlt_ := lss_float
    have hle_ := leq_float
    have hne_ := neq_float
    go_enter Try.func17, Try.ntmps17
    go_wp2
    go_ret
    refine ⟨rfl, fun _ => ?_, ?_, by simp, ?_⟩
    · exact blk_put HX.out 0 _ rfl
    · intro i h3 h4
      exact (Below.heap_setCell _ _ _ i (by show i ≠ gk; omega)).trans (Below.heap_alloc W _ i h4)
    · exact fun w0 hb hle => below_set (below_alloc hb _) (Nat.le_trans hle h2)
  stab := fun k W W' h hk => (hk gk h1).trans h
  enters := by intro args w; kernel_rfl
theorem run_add_some {P : Program} {w : World} {t : TypeId} {a b q : Nat} (h : F64.add a b = some q) : (binOp .add t (.float .f64 a) (.float .f64 b)).run P w = .ok (.float .f64 q) w := by
  have h' : FloatKind.f64.format.add a b = some q := h
  simp [binOp, Op.floatArith, h']
theorem run_add_none {P : Program} {w : World} {t : TypeId} {a b : Nat} (h : F64.add a b = none) : ∃ q, nanD (F64.read q) = true ∧ (binOp .add t (.float .f64 a) (.float .f64 b)).run P w = .ok (.float .f64 q) w.drew := by
  have h' : FloatKind.f64.format.add a b = none := h
  have h0 : F64.div 9218868437227405313 0 = none := by decide +kernel
  refine ⟨(Question.nanBits .f64 a b).cut (w.tape w.drawn (.nanBits .f64 a b)), ?_, ?_⟩
  · generalize w.tape w.drawn (.nanBits .f64 a b) = t
    show nanD (F64.read ((t % 2) * 9223372036854775808 + 9218868437227405312 + 1 + (t / 2) % 4503599627370495)) = true
    have e1 : F64.signWeight = 9223372036854775808 := by rfl
    have e2 : F64.binade = 4503599627370496 := by rfl
    have e3 : F64.infRung = 9218868437227405312 := by rfl
    have hr : ((t % 2) * 9223372036854775808 + 9218868437227405312 + 1 + (t / 2) % 4503599627370495) % 9223372036854775808 = 9218868437227405313 + (t / 2) % 4503599627370495 := by omega
    unfold Ieee.Format.read
    rw [e1, e2, e3]
    simp only [hr]
    rw [if_neg (by omega), if_neg (by omega), if_neg (by omega)]
    rfl
  · simp only [binOp, Op.floatArith, h']
    rfl
/-- Until's: the sum goes up. -/
def stepU (need q : Nat) (x : S27) : Bool × Nat := if gtF x.f1 0 = true then (match F64.add q x.f1 with | some q' => (ltF q' need, q') | none => (false, q)) else (ltF q need, q)
def StU (gs gn need : Nat) (q : Nat) (W : World) : Prop := W.heap[gs]? = some (.cells #[.float .f64 q] 25 (0, 0)) ∧ W.heap[gn]? = some (.cells #[.float .f64 need] 25 (0, 0))
set_option maxHeartbeats 4000000 in
theorem moreU (b1 lo gs gn need : Nat) (h1 : gs < b1) (h2 : lo ≤ gs) (h3 : gn < b1) (hne : gs ≠ gn) : More b1 lo 22 #[.pointer (some ⟨gs, 0, none⟩), .pointer (some ⟨gn, 0, none⟩)] (StU gs gn need) (stepU need) where
  run := by
    intro q x W h
    obtain ⟨hs, hn⟩ := h
    have ls := blk_lt hs
    have ln := blk_lt hn
    have hbs := blk_alloc hs (.cells #[.string x.f0, .float .f64 x.f1, .float .f64 x.f2] 27)
    have hbn := blk_alloc hn (.cells #[.string x.f0, .float .f64 x.f1, .float .f64 x.f2] 27)
    have hc : (W.alloc (.cells #[.string x.f0, .float .f64 x.f1, .float .f64 x.f2] 27)).cell? ⟨gs, 0, none⟩ = some (.float .f64 q) := (blk_cell hbs 0).trans rfl
    have hd : (W.alloc (.cells #[.string x.f0, .float .f64 x.f1, .float .f64 x.f2] 27)).cell? ⟨gn, 0, none⟩ = some (.float .f64 need) := (blk_cell hbn 0).trans rfl
    have hf := blk_frozen hbs 0
    have HXs := Aside0.mk hbs
    have HXn := Aside0.mk hbn
    have far : ∀ (u : Value) (i : Nat), b1 ≤ i → i < W.heap.size → ((W.alloc (.cells #[.string x.f0, .float .f64 x.f1, .float .f64 x.f2] 27)).setCell ⟨gs, 0, none⟩ u).heap[i]? = W.heap[i]? := fun u i h5 h6 =>
      (Below.heap_setCell _ _ _ i (by show i ≠ gs; omega)).trans (Below.heap_alloc W _ i h6)
    have HF := Aside0.mk far
    have HL : Lifts lo W (W.alloc (.cells #[.string x.f0, .float .f64 x.f1, .float .f64 x.f2] 27)) := fun w0 hb _ => below_alloc hb _
    have HLS : Aside0 (∀ u, Lifts lo W ((W.alloc (.cells #[.string x.f0, .float .f64 x.f1, .float .f64 x.f2] 27)).setCell ⟨gs, 0, none⟩ u)) := ⟨fun u w0 hb hle => below_set (below_alloc hb _) (Nat.le_trans hle h2)⟩
    have HL := Aside0.mk HL
    have HS : Aside0 (∀ u, ((W.alloc (.cells #[.string x.f0, .float .f64 x.f1, .float .f64 x.f2] 27)).setCell ⟨gs, 0, none⟩ u).heap[gn]? = some (.cells #[.float .f64 need] 25 (0, 0))) := ⟨fun u => blk_far hbn (fun e => hne e.symm) _⟩
    have hd2 : ∀ u, ((W.alloc (.cells #[.string x.f0, .float .f64 x.f1, .float .f64 x.f2] 27)).setCell ⟨gs, 0, none⟩ u).cell? ⟨gn, 0, none⟩ = some (.float .f64 need) := fun u => (blk_cell (HS.out u) 0).trans rfl
    have hc2 : ∀ u, ((W.alloc (.cells #[.string x.f0, .float .f64 x.f1, .float .f64 x.f2] 27)).setCell ⟨gs, 0, none⟩ u).cell? ⟨gs, 0, none⟩ = some u := fun u => (blk_cell (blk_put hbs 0 u rfl) 0).trans rfl
    have LS := Aside0.mk ls
    clear hs hn hbs hbn far ls ln hne
    show Calls Try.prog 22 #[.agg #[.string x.f0, .float .f64 x.f1, .float .f64 x.f2], .pointer (some ⟨gs, 0, none⟩), .pointer (some ⟨gn, 0, none⟩)] W _
    cases hg : gtF x.f1 0 with
    | false =>
      have HE : Aside0 (stepU need q x = (ltF q need, q)) := ⟨by unfold stepU; rw [hg]; rfl⟩
      have hgt_ := gtr_float
      have hlt_ := lss_float
      have hle_ := leq_float
      have hne_ := neq_float
      go_enter Try.func22, Try.ntmps22
      go_wp2
      go_ret
      rw [HE.out]
      exact ⟨rfl, fun _ => ⟨HXs.out, HXn.out⟩, fun i h5 h6 => Below.heap_alloc W _ i h6, by simp, HL.out⟩
    | true =>
      cases ha : F64.add q x.f1 with
      | some q' =>
        have HE : Aside0 (stepU need q x = (ltF q' need, q')) := ⟨by unfold stepU; rw [hg, ha]; rfl⟩
        have hrun : ∀ w', (binOp .add 25 (.float .f64 q) (.float .f64 x.f1)).run Try.prog w' = .ok (.float .f64 q') w' := fun w' => run_add_some ha
        clear ha
        have hgt_ := gtr_float
        have hlt_ := lss_float
        have hle_ := leq_float
        have hne_ := neq_float
        go_enter Try.func22, Try.ntmps22
        go_wp2
        go_ret
        rw [HE.out]
        exact ⟨rfl, fun _ => ⟨blk_put HXs.out 0 _ rfl, HS.out _⟩, HF.out _, by simp, HLS.out _⟩
      | none =>
        have HE : Aside0 (stepU need q x = (false, q)) := ⟨by unfold stepU; rw [hg, ha]; rfl⟩
        obtain ⟨z, hz, hrun⟩ := run_add_none (P := Try.prog) (w := W.alloc (.cells #[.string x.f0, .float .f64 x.f1, .float .f64 x.f2] 27)) (t := 25) ha
        have hl := ltF_nan (y := need) hz
        clear ha hz
        have hgt_ := gtr_float
        have hlt_ := lss_float
        have hle_ := leq_float
        have hne_ := neq_float
        go_enter Try.func22, Try.ntmps22
        go_wp2
        go_ret
        rw [HE.out]
        exact ⟨rfl, (fun e => absurd e (by simp)), HF.out _, by simp, fun w0 hb hle => (HLS.out _ w0 hb hle).drew⟩
  stab := fun k W W' h hk => ⟨(hk gs h1).trans h.1, (hk gn h3).trans h.2⟩
  enters := by intro args w; kernel_rfl
end Go.Proofs.Ythnbkhggbfnpcaa.Ev
